/- A small separation logic over the model: partial heaps, assertions, and what holds of a world. Plain library, no program in sight. -/
import Derived.OrdersIn
import Derived.RangeFuncNested
import Derived.Shelf.Abstract
namespace Go.Sl
open Go

/-! ### Partial heaps -/
abbrev Hp := Nat → Option Obj
def hp (w : World) : Hp := fun b => w.heap[b]?
def Le (h k : Hp) : Prop := ∀ b o, h b = some o → k b = some o
def Dj (h k : Hp) : Prop := ∀ b, h b = none ∨ k b = none
def un (h k : Hp) : Hp := fun b => match h b with | some o => some o | none => k b
def hnil : Hp := fun _ => none
def one (b : Nat) (o : Obj) : Hp := fun i => if i = b then some o else none

theorem Le.refl (h : Hp) : Le h h := fun _ _ e => e
theorem Le.trans {a b c : Hp} (h : Le a b) (k : Le b c) : Le a c := fun _ _ e => k _ _ (h _ _ e)
theorem Le.nil (h : Hp) : Le hnil h := fun _ _ e => by simp [hnil] at e
theorem Le.un_left (h k : Hp) : Le h (un h k) := fun b o e => by simp [un, e]
theorem Le.un_right {h k : Hp} (d : Dj h k) : Le k (un h k) := fun b o e => by
  rcases d b with h0 | h0
  · simp [un, h0, e]
  · rw [h0] at e; cases e
theorem Le.un {h k m : Hp} (a : Le h m) (b : Le k m) : Le (un h k) m := fun i o e => by
  unfold Sl.un at e
  cases hi : h i with
  | some x => rw [hi] at e; simp at e; exact a _ _ (by rw [hi, e])
  | none => rw [hi] at e; simp at e; exact b _ _ e
theorem Dj.symm {h k : Hp} (d : Dj h k) : Dj k h := fun b => (d b).symm
theorem Dj.nil (h : Hp) : Dj h hnil := fun _ => .inr rfl
theorem Dj.le_left {h h' k : Hp} (d : Dj h k) (l : Le h' h) : Dj h' k := fun b => by
  rcases d b with e | e
  · left
    cases hb : h' b with
    | none => rfl
    | some o => rw [l _ _ hb] at e; cases e
  · exact .inr e
theorem Dj.le_right {h k k' : Hp} (d : Dj h k) (l : Le k' k) : Dj h k' := (d.symm.le_left l).symm
theorem Dj.le {h h' k k' : Hp} (d : Dj h k) (l : Le h' h) (m : Le k' k) : Dj h' k' := (d.le_left l).le_right m
theorem Dj.un {h k m : Hp} (a : Dj m h) (b : Dj m k) : Dj m (un h k) := fun i => by
  rcases a i with e | e
  · exact .inl e
  · rcases b i with e' | e'
    · exact .inl e'
    · right; simp [Sl.un, e, e']
theorem Le.one {b : Nat} {o : Obj} {h : Hp} (e : h b = some o) : Le (one b o) h := fun i x hx => by
  unfold Sl.one at hx
  split at hx
  · rename_i hi; subst hi; rw [e]; exact hx
  · cases hx
theorem one_same (b : Nat) (o : Obj) : one b o b = some o := by simp [one]

/-! ### Assertions: a part that stays as it is for ever, and a part that is owned -/
structure SProp where
  on : Hp → Hp → Prop
  mono : ∀ {B B' h h'}, Le B B' → Le h h' → on B h → on B' h'

def star (A C : SProp) : SProp where
  on B h := ∃ h1 h2, Dj h1 h2 ∧ Le h1 h ∧ Le h2 h ∧ A.on B h1 ∧ C.on B h2
  mono := fun l m ⟨h1, h2, d, a, b, x, y⟩ => ⟨h1, h2, d, a.trans m, b.trans m, A.mono l (.refl _) x, C.mono l (.refl _) y⟩
def emp : SProp := ⟨fun _ _ => True, fun _ _ h => h⟩
def blk (b : Nat) (o : Obj) : SProp := ⟨fun _ h => h b = some o, fun _ m e => m _ _ e⟩
def pblk (b : Nat) (o : Obj) : SProp := ⟨fun B _ => B b = some o, fun l _ e => l _ _ e⟩
def ex {α : Type} (A : α → SProp) : SProp := ⟨fun B h => ∃ x, (A x).on B h, fun l m ⟨x, e⟩ => ⟨x, (A x).mono l m e⟩⟩
def pu (p : Prop) : SProp := ⟨fun _ _ => p, fun _ _ h => h⟩
def sl : List SProp → SProp
  | [] => emp
  | A :: L => star A (sl L)
/-- All of a given pair of heaps. -/
def allOf (B0 h0 : Hp) : SProp := ⟨fun B h => Le B0 B ∧ Le h0 h, fun l m ⟨a, b⟩ => ⟨a.trans l, b.trans m⟩⟩

/-- Entailment at every pair of heaps. -/
def Ent (A C : SProp) : Prop := ∀ B h, A.on B h → C.on B h
theorem Ent.refl (A : SProp) : Ent A A := fun _ _ h => h
theorem Ent.trans {A C D : SProp} (h : Ent A C) (k : Ent C D) : Ent A D := fun B h' e => k B h' (h B h' e)
theorem Ent.star {A A' C C' : SProp} (h : Ent A A') (k : Ent C C') : Ent (star A C) (star A' C') :=
  fun B _ ⟨h1, h2, d, a, b, x, y⟩ => ⟨h1, h2, d, a, b, h B _ x, k B _ y⟩
theorem Ent.comm (A C : SProp) : Ent (Sl.star A C) (Sl.star C A) := fun _ _ ⟨h1, h2, d, a, b, x, y⟩ => ⟨h2, h1, d.symm, b, a, y, x⟩
theorem Ent.assoc (A C D : SProp) : Ent (Sl.star (Sl.star A C) D) (Sl.star A (Sl.star C D)) := by
  rintro B h ⟨h12, h3, d, a, b, ⟨h1, h2, d', a', b', x, y⟩, z⟩
  have d23 : Dj h2 h3 := d.le_left b'
  refine ⟨h1, un h2 h3, ?_, a'.trans a, Le.un (b'.trans a) b, x, h2, h3, d23, .un_left _ _, .un_right d23, y, z⟩
  exact Dj.un d' (d.le_left a')
theorem Ent.assoc' (A C D : SProp) : Ent (Sl.star A (Sl.star C D)) (Sl.star (Sl.star A C) D) := by
  rintro B h ⟨h1, h23, d, a, b, x, ⟨h2, h3, d', a', b', y, z⟩⟩
  have d12 : Dj h1 h2 := d.le_right a'
  refine ⟨un h1 h2, h3, ?_, Le.un a (a'.trans b), b'.trans b, ⟨h1, h2, d12, .un_left _ _, .un_right d12, x, y⟩, z⟩
  exact (Dj.un (d.le_right b').symm d'.symm).symm
theorem Ent.left (A C : SProp) : Ent (Sl.star A C) A := fun _ _ ⟨_, _, _, a, _, x, _⟩ => A.mono (.refl _) a x
theorem Ent.right (A C : SProp) : Ent (Sl.star A C) C := fun _ _ ⟨_, _, _, _, b, _, y⟩ => C.mono (.refl _) b y
theorem Ent.emp_right (A : SProp) : Ent A (Sl.star A emp) := fun _ h x => ⟨h, hnil, .nil _, .refl _, .nil _, x, trivial⟩
theorem Ent.emp_left (A : SProp) : Ent A (Sl.star emp A) := (Ent.emp_right A).trans (Ent.comm _ _)
theorem Ent.drop (A : SProp) : Ent A emp := fun _ _ _ => trivial
theorem Ent.swap (A C D : SProp) : Ent (Sl.star A (Sl.star C D)) (Sl.star C (Sl.star A D)) :=
  (Ent.assoc' A C D).trans (((Ent.comm A C).star (Ent.refl D)).trans (Ent.assoc C A D))

theorem sl_append_to (L M : List SProp) : Ent (sl (L ++ M)) (star (sl L) (sl M)) := by
  induction L with
  | nil => exact Ent.emp_left _
  | cons A L ih => exact ((Ent.refl A).star ih).trans (Ent.assoc' _ _ _)
theorem sl_append_of (L M : List SProp) : Ent (star (sl L) (sl M)) (sl (L ++ M)) := by
  induction L with
  | nil => exact Ent.right _ _
  | cons A L ih => exact (Ent.assoc _ _ _).trans ((Ent.refl A).star ih)
theorem sl_perm {L M : List SProp} (h : L.Perm M) : Ent (sl L) (sl M) := by
  induction h with
  | nil => exact Ent.refl _
  | cons A _ ih => exact (Ent.refl A).star ih
  | swap A C l => exact Ent.swap _ _ _
  | trans _ _ ih1 ih2 => exact ih1.trans ih2
theorem sl_one_to (A : SProp) : Ent (sl [A]) A := Ent.left _ _
theorem sl_one_of (A : SProp) : Ent A (sl [A]) := Ent.emp_right _

/-! ### What holds of a world -/
def holds (A : SProp) (w : World) : Prop := ∃ B h, Dj B h ∧ Le B (hp w) ∧ Le h (hp w) ∧ A.on B h

theorem holds.ent {A C : SProp} {w : World} (h : holds A w) (e : Ent A C) : holds C w :=
  let ⟨B, k, d, l, m, x⟩ := h; ⟨B, k, d, l, m, e _ _ x⟩
theorem holds.le {A : SProp} {w w' : World} (h : holds A w) (e : Le (hp w) (hp w')) : holds A w' :=
  let ⟨B, k, d, l, m, x⟩ := h; ⟨B, k, d, l.trans e, m.trans e, x⟩

/-- A fact on the world's heap that an assertion shows. -/
def Sees (A : SProp) (φ : Hp → Prop) : Prop := ∀ w, holds A w → φ (hp w)
theorem Sees.ent {A C : SProp} {φ : Hp → Prop} (e : Ent A C) (h : Sees C φ) : Sees A φ := fun w hw => h w (hw.ent e)
theorem Sees.left {A C : SProp} {φ : Hp → Prop} (h : Sees A φ) : Sees (star A C) φ := h.ent (Ent.left _ _)
theorem Sees.right {A C : SProp} {φ : Hp → Prop} (h : Sees C φ) : Sees (star A C) φ := h.ent (Ent.right _ _)
theorem sees_blk (b : Nat) (o : Obj) : Sees (blk b o) (fun h => h b = some o) := fun _ ⟨_, _, _, _, m, x⟩ => m _ _ x
theorem sees_pblk (b : Nat) (o : Obj) : Sees (pblk b o) (fun h => h b = some o) := fun _ ⟨_, _, _, l, _, x⟩ => l _ _ x

theorem hp_alloc (w : World) (o : Obj) : Le (hp w) (hp (w.alloc o)) := fun b x e => by
  have hlt : b < w.heap.size := (Array.getElem?_eq_some_iff.1 e).1
  show (w.heap.push o)[b]? = some x
  rw [Array.getElem?_push_lt hlt]
  unfold hp at e
  rw [Array.getElem?_eq_getElem hlt] at e
  exact e
theorem hp_new (w : World) (o : Obj) : hp (w.alloc o) w.heap.size = some o := by
  show (w.heap.push o)[w.heap.size]? = some o
  simp
theorem hp_out (w : World) {b : Nat} (h : w.heap.size ≤ b) : hp w b = none := Array.getElem?_eq_none h
theorem hp_in {w : World} {b : Nat} {o : Obj} (h : hp w b = some o) : b < w.heap.size := (Array.getElem?_eq_some_iff.1 h).1

/-- A new block is the one who made it's own. -/
theorem holds.alloc {A : SProp} {w : World} (h : holds A w) (o : Obj) : holds (star (blk w.heap.size o) A) (w.alloc o) := by
  obtain ⟨B, k, d, l, m, x⟩ := h
  have hB : B w.heap.size = none := by
    cases e : B w.heap.size with
    | none => rfl
    | some y => have := l _ _ e; rw [hp_out w (Nat.le_refl _)] at this; cases this
  have hk : k w.heap.size = none := by
    cases e : k w.heap.size with
    | none => rfl
    | some y => have := m _ _ e; rw [hp_out w (Nat.le_refl _)] at this; cases this
  have d1 : ∀ g : Hp, g w.heap.size = none → Dj g (one w.heap.size o) := fun g hg b => by
    by_cases e : b = w.heap.size
    · subst e; exact .inl hg
    · right; simp [one, e]
  refine ⟨B, un k (one w.heap.size o), Dj.un d (d1 B hB), l.trans (hp_alloc w o), Le.un (m.trans (hp_alloc w o)) (.one (hp_new w o)), ?_⟩
  exact ⟨one w.heap.size o, k, (d1 k hk).symm, .un_right (d1 k hk), .un_left _ _, one_same _ _, x⟩

/-- What is owned may be changed. -/
theorem holds.update {A : SProp} {w w' : World} {b : Nat} {o o' : Obj} (h : holds (star (blk b o) A) w) (hb : hp w' b = some o') (ho : ∀ k, k ≠ b → hp w' k = hp w k) :
    holds (star (blk b o') A) w' := by
  obtain ⟨B, k, d, l, m, k1, k2, d12, l1, l2, x, y⟩ := h
  have x' : k1 b = some o := x
  have hB : B b = none := (d b).resolve_right (by rw [l1 _ _ x']; simp)
  have h2 : k2 b = none := (d12 b).resolve_left (by rw [x']; simp)
  have far : ∀ g : Hp, g b = none → Le g (hp w) → Le g (hp w') := fun g hg lg i z e => by
    by_cases hi : i = b
    · subst hi; rw [hg] at e; cases e
    · rw [ho i hi]; exact lg _ _ e
  have d1 : ∀ g : Hp, g b = none → Dj g (one b o') := fun g hg i => by
    by_cases e : i = b
    · subst e; exact .inl hg
    · right; simp [one, e]
  refine ⟨B, un k2 (one b o'), Dj.un (d.le_right l2) (d1 B hB), far B hB l, Le.un (far k2 h2 (l2.trans m)) (.one hb), ?_⟩
  exact ⟨one b o', k2, (d1 k2 h2).symm, .un_right (d1 k2 h2), .un_left _ _, one_same _ _, y⟩

/-- What is owned may be given up: from then on nobody changes it. -/
theorem holds.freeze {A : SProp} {w : World} {b : Nat} {o : Obj} (h : holds (star (blk b o) A) w) : holds (star (pblk b o) A) w := by
  obtain ⟨B, k, d, l, m, k1, k2, d12, l1, l2, x, y⟩ := h
  have x' : k1 b = some o := x
  have h2 : k2 b = none := (d12 b).resolve_left (by rw [x']; simp)
  have d2 : Dj (one b o) k2 := fun i => by
    by_cases e : i = b
    · subst e; exact .inr h2
    · left; simp [one, e]
  refine ⟨un B (one b o), k2, ?_, Le.un l (.one (m _ _ (l1 _ _ x'))), l2.trans m, hnil, k2, (Dj.nil k2).symm, .nil _, .refl _, ?_, ?_⟩
  · exact (Dj.un (d.le_right l2).symm d2.symm).symm
  · show un B (one b o) b = some o
    have hB : B b = none := (d b).resolve_right (by rw [l1 _ _ x']; simp)
    simp [un, hB, one]
  · exact A.mono (.un_left _ _) (.refl _) y
theorem Ent.pdup (b : Nat) (o : Obj) (A : SProp) : Ent (Sl.star (pblk b o) A) (Sl.star (pblk b o) (Sl.star (pblk b o) A)) :=
  fun _ _ ⟨_, h2, _, _, m2, x, y⟩ => ⟨hnil, h2, (Dj.nil _).symm, .nil _, m2, x, hnil, h2, (Dj.nil _).symm, .nil _, .refl _, x, y⟩

/-- An owned block is none of those that stay, and no other owned one. -/
theorem holds.ne_blk {b b' : Nat} {o o' : Obj} {A : SProp} {w : World} (h : holds (star (blk b o) (star (blk b' o') A)) w) : b ≠ b' := by
  obtain ⟨B, k, d, l, m, k1, k2, d12, l1, l2, x, k3, k4, d34, l3, l4, y, z⟩ := h
  rintro rfl
  have x' : k1 b = some o := x
  have y' : k3 b = some o' := y
  rcases d12 b with e | e
  · rw [x'] at e; cases e
  · rw [l3 _ _ y'] at e; cases e
theorem holds.ne_pblk {b b' : Nat} {o o' : Obj} {A : SProp} {w : World} (h : holds (star (blk b o) (star (pblk b' o') A)) w) : b ≠ b' := by
  obtain ⟨B, k, d, l, m, k1, k2, d12, l1, l2, x, k3, k4, d34, l3, l4, y, z⟩ := h
  rintro rfl
  have x' : k1 b = some o := x
  have y' : B b = some o' := y
  rcases d b with e | e
  · rw [y'] at e; cases e
  · rw [l1 _ _ x'] at e; cases e

theorem holds.pu {p : Prop} {A : SProp} {w : World} (h : holds (star (pu p) A) w) : p ∧ holds A w := by
  obtain ⟨B, k, d, l, m, k1, k2, d12, l1, l2, x, y⟩ := h
  exact ⟨x, B, k2, d.le_right l2, l, l2.trans m, y⟩
theorem holds.ex {α : Type} {C : α → SProp} {A : SProp} {w : World} (h : holds (star (ex C) A) w) : ∃ x, holds (star (C x) A) w := by
  obtain ⟨B, k, d, l, m, k1, k2, d12, l1, l2, ⟨x, hx⟩, y⟩ := h
  exact ⟨x, B, k, d, l, m, k1, k2, d12, l1, l2, hx, y⟩

/-! ### A world that came out of another one -/
structure Std (w w' : World) : Prop where
  os : w'.os = w.os
  tape : w'.tape = w.tape
  output : w'.output = w.output
  size : w.heap.size ≤ w'.heap.size
theorem Std.refl (w : World) : Std w w := ⟨rfl, rfl, rfl, Nat.le_refl _⟩
theorem Std.trans {a b c : World} (h : Std a b) (k : Std b c) : Std a c := ⟨k.os.trans h.os, k.tape.trans h.tape, k.output.trans h.output, Nat.le_trans h.size k.size⟩
theorem Std.alloc (w : World) (o : Obj) : Std w (w.alloc o) := ⟨rfl, rfl, rfl, by simp⟩
theorem Std.setCell (w : World) (a : Addr) (v : Value) : Std w (w.setCell a v) := ⟨rfl, rfl, rfl, by simp⟩
theorem Std.drew (w : World) : Std w w.drew := ⟨rfl, rfl, rfl, Nat.le_refl _⟩
theorem Std.putObj (w : World) (b : Nat) (o : Obj) : Std w (w.putObj b o) := ⟨rfl, rfl, rfl, by simp⟩

theorem holds.putObj {A : SProp} {w : World} {b : Nat} {o : Obj} (o' : Obj) (h : holds (star (blk b o) A) w) : holds (star (blk b o') A) (w.putObj b o') := by
  have hb : hp w b = some o := (Sees.left (sees_blk b o)) w h
  exact h.update (World.putObj_heap_same (hp_in hb)) (fun k hk => World.putObj_heap_other hk)

/-- The whole of a world, as an assertion: with it a call keeps all that was there. -/
def whole (w : World) : SProp := ⟨fun B _ => Le (hp w) B, fun l _ e => e.trans l⟩
theorem holds_whole (w : World) : holds (whole w) w := ⟨hp w, hnil, .nil _, .refl _, .nil _, Le.refl _⟩
theorem sees_whole (w : World) : Sees (whole w) (fun h => Le (hp w) h) := fun _ ⟨_, _, _, l, _, x⟩ => Le.trans x l

end Go.Sl
