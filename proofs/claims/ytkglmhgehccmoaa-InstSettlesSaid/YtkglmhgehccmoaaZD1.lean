/- Parts of a proof, in order. -/
import Derived.OrdersIn
import Derived.RangeFuncNested
import Derived.Shelf.Abstract
import Derived.Laws.CopyRow
import Derived.Laws.Cells
import Derived.IntWalk
import Derived.Maps.AppendAt
import Derived.Laws.OwnMore
import Derived.Test.YtkglmhgehccmoaaProg
import Derived.KernelRfl
import Derived.Laws.StructEq
import Derived.Laws.MakeOwn

set_option linter.unusedSimpArgs false
set_option linter.unusedVariables false
/- A small separation logic over the model: partial heaps, assertions, and what holds of a world. Plain library, no program in sight. -/
namespace Go.Sl
open Go

/-! ### Partial heaps -/
abbrev Hp := Nat → Option Obj
def hp (w : World) : Hp := fun b => w.heap[b]?
def Le (h k : Hp) : Prop := ∀ b o, h b = some o → k b = some o
def Dj (h k : Hp) : Prop := ∀ b, h b = none ∨ k b = none
def un (h k : Hp) : Hp := fun b => match h b with | some o => some o | none => k b
def hnil : Hp := fun _ => none
def one (b : Nat) (o : Obj) : Hp := fun i => if i = b then some o else none

theorem Le.refl (h : Hp) : Le h h := fun _ _ e => e
theorem Le.trans {a b c : Hp} (h : Le a b) (k : Le b c) : Le a c := fun _ _ e => k _ _ (h _ _ e)
theorem Le.nil (h : Hp) : Le hnil h := fun _ _ e => by simp [hnil] at e
theorem Le.un_left (h k : Hp) : Le h (un h k) := fun b o e => by simp [un, e]
theorem Le.un_right {h k : Hp} (d : Dj h k) : Le k (un h k) := fun b o e => by
  rcases d b with h0 | h0
  · simp [un, h0, e]
  · rw [h0] at e; cases e
theorem Le.un {h k m : Hp} (a : Le h m) (b : Le k m) : Le (un h k) m := fun i o e => by
  unfold Sl.un at e
  cases hi : h i with
  | some x => rw [hi] at e; simp at e; exact a _ _ (by rw [hi, e])
  | none => rw [hi] at e; simp at e; exact b _ _ e
theorem Dj.symm {h k : Hp} (d : Dj h k) : Dj k h := fun b => (d b).symm
theorem Dj.nil (h : Hp) : Dj h hnil := fun _ => .inr rfl
theorem Dj.le_left {h h' k : Hp} (d : Dj h k) (l : Le h' h) : Dj h' k := fun b => by
  rcases d b with e | e
  · left
    cases hb : h' b with
    | none => rfl
    | some o => rw [l _ _ hb] at e; cases e
  · exact .inr e
theorem Dj.le_right {h k k' : Hp} (d : Dj h k) (l : Le k' k) : Dj h k' := (d.symm.le_left l).symm
theorem Dj.le {h h' k k' : Hp} (d : Dj h k) (l : Le h' h) (m : Le k' k) : Dj h' k' := (d.le_left l).le_right m
theorem Dj.un {h k m : Hp} (a : Dj m h) (b : Dj m k) : Dj m (un h k) := fun i => by
  rcases a i with e | e
  · exact .inl e
  · rcases b i with e' | e'
    · exact .inl e'
    · right; simp [Sl.un, e, e']
theorem Le.one {b : Nat} {o : Obj} {h : Hp} (e : h b = some o) : Le (one b o) h := fun i x hx => by
  unfold Sl.one at hx
  split at hx
  · rename_i hi; subst hi; rw [e]; exact hx
  · cases hx
theorem one_same (b : Nat) (o : Obj) : one b o b = some o := by simp [one]

/-! ### Assertions: a part that stays as it is for ever, and a part that is owned -/
structure SProp where
  on : Hp → Hp → Prop
  mono : ∀ {B B' h h'}, Le B B' → Le h h' → on B h → on B' h'

def star (A C : SProp) : SProp where
  on B h := ∃ h1 h2, Dj h1 h2 ∧ Le h1 h ∧ Le h2 h ∧ A.on B h1 ∧ C.on B h2
  mono := fun l m ⟨h1, h2, d, a, b, x, y⟩ => ⟨h1, h2, d, a.trans m, b.trans m, A.mono l (.refl _) x, C.mono l (.refl _) y⟩
def emp : SProp := ⟨fun _ _ => True, fun _ _ h => h⟩
def blk (b : Nat) (o : Obj) : SProp := ⟨fun _ h => h b = some o, fun _ m e => m _ _ e⟩
def pblk (b : Nat) (o : Obj) : SProp := ⟨fun B _ => B b = some o, fun l _ e => l _ _ e⟩
def ex {α : Type} (A : α → SProp) : SProp := ⟨fun B h => ∃ x, (A x).on B h, fun l m ⟨x, e⟩ => ⟨x, (A x).mono l m e⟩⟩
def pu (p : Prop) : SProp := ⟨fun _ _ => p, fun _ _ h => h⟩
def sl : List SProp → SProp
  | [] => emp
  | A :: L => star A (sl L)
/-- All of a given pair of heaps. -/
def allOf (B0 h0 : Hp) : SProp := ⟨fun B h => Le B0 B ∧ Le h0 h, fun l m ⟨a, b⟩ => ⟨a.trans l, b.trans m⟩⟩

/-- Entailment at every pair of heaps. -/
def Ent (A C : SProp) : Prop := ∀ B h, A.on B h → C.on B h
theorem Ent.refl (A : SProp) : Ent A A := fun _ _ h => h
theorem Ent.trans {A C D : SProp} (h : Ent A C) (k : Ent C D) : Ent A D := fun B h' e => k B h' (h B h' e)
theorem Ent.star {A A' C C' : SProp} (h : Ent A A') (k : Ent C C') : Ent (star A C) (star A' C') :=
  fun B _ ⟨h1, h2, d, a, b, x, y⟩ => ⟨h1, h2, d, a, b, h B _ x, k B _ y⟩
theorem Ent.comm (A C : SProp) : Ent (Sl.star A C) (Sl.star C A) := fun _ _ ⟨h1, h2, d, a, b, x, y⟩ => ⟨h2, h1, d.symm, b, a, y, x⟩
theorem Ent.assoc (A C D : SProp) : Ent (Sl.star (Sl.star A C) D) (Sl.star A (Sl.star C D)) := by
  rintro B h ⟨h12, h3, d, a, b, ⟨h1, h2, d', a', b', x, y⟩, z⟩
  have d23 : Dj h2 h3 := d.le_left b'
  refine ⟨h1, un h2 h3, ?_, a'.trans a, Le.un (b'.trans a) b, x, h2, h3, d23, .un_left _ _, .un_right d23, y, z⟩
  exact Dj.un d' (d.le_left a')
theorem Ent.assoc' (A C D : SProp) : Ent (Sl.star A (Sl.star C D)) (Sl.star (Sl.star A C) D) := by
  rintro B h ⟨h1, h23, d, a, b, x, ⟨h2, h3, d', a', b', y, z⟩⟩
  have d12 : Dj h1 h2 := d.le_right a'
  refine ⟨un h1 h2, h3, ?_, Le.un a (a'.trans b), b'.trans b, ⟨h1, h2, d12, .un_left _ _, .un_right d12, x, y⟩, z⟩
  exact (Dj.un (d.le_right b').symm d'.symm).symm
theorem Ent.left (A C : SProp) : Ent (Sl.star A C) A := fun _ _ ⟨_, _, _, a, _, x, _⟩ => A.mono (.refl _) a x
theorem Ent.right (A C : SProp) : Ent (Sl.star A C) C := fun _ _ ⟨_, _, _, _, b, _, y⟩ => C.mono (.refl _) b y
theorem Ent.emp_right (A : SProp) : Ent A (Sl.star A emp) := fun _ h x => ⟨h, hnil, .nil _, .refl _, .nil _, x, trivial⟩
theorem Ent.emp_left (A : SProp) : Ent A (Sl.star emp A) := (Ent.emp_right A).trans (Ent.comm _ _)
theorem Ent.drop (A : SProp) : Ent A emp := fun _ _ _ => trivial
theorem Ent.swap (A C D : SProp) : Ent (Sl.star A (Sl.star C D)) (Sl.star C (Sl.star A D)) :=
  (Ent.assoc' A C D).trans (((Ent.comm A C).star (Ent.refl D)).trans (Ent.assoc C A D))

theorem sl_append_to (L M : List SProp) : Ent (sl (L ++ M)) (star (sl L) (sl M)) := by
  induction L with
  | nil => exact Ent.emp_left _
  | cons A L ih => exact ((Ent.refl A).star ih).trans (Ent.assoc' _ _ _)
theorem sl_append_of (L M : List SProp) : Ent (star (sl L) (sl M)) (sl (L ++ M)) := by
  induction L with
  | nil => exact Ent.right _ _
  | cons A L ih => exact (Ent.assoc _ _ _).trans ((Ent.refl A).star ih)
theorem sl_perm {L M : List SProp} (h : L.Perm M) : Ent (sl L) (sl M) := by
  induction h with
  | nil => exact Ent.refl _
  | cons A _ ih => exact (Ent.refl A).star ih
  | swap A C l => exact Ent.swap _ _ _
  | trans _ _ ih1 ih2 => exact ih1.trans ih2
theorem sl_one_to (A : SProp) : Ent (sl [A]) A := Ent.left _ _
theorem sl_one_of (A : SProp) : Ent A (sl [A]) := Ent.emp_right _

/-! ### What holds of a world -/
def holds (A : SProp) (w : World) : Prop := ∃ B h, Dj B h ∧ Le B (hp w) ∧ Le h (hp w) ∧ A.on B h

theorem holds.ent {A C : SProp} {w : World} (h : holds A w) (e : Ent A C) : holds C w :=
  let ⟨B, k, d, l, m, x⟩ := h; ⟨B, k, d, l, m, e _ _ x⟩
theorem holds.le {A : SProp} {w w' : World} (h : holds A w) (e : Le (hp w) (hp w')) : holds A w' :=
  let ⟨B, k, d, l, m, x⟩ := h; ⟨B, k, d, l.trans e, m.trans e, x⟩

/-- A fact on the world's heap that an assertion shows. -/
def Sees (A : SProp) (φ : Hp → Prop) : Prop := ∀ w, holds A w → φ (hp w)
theorem Sees.ent {A C : SProp} {φ : Hp → Prop} (e : Ent A C) (h : Sees C φ) : Sees A φ := fun w hw => h w (hw.ent e)
theorem Sees.left {A C : SProp} {φ : Hp → Prop} (h : Sees A φ) : Sees (star A C) φ := h.ent (Ent.left _ _)
theorem Sees.right {A C : SProp} {φ : Hp → Prop} (h : Sees C φ) : Sees (star A C) φ := h.ent (Ent.right _ _)
theorem sees_blk (b : Nat) (o : Obj) : Sees (blk b o) (fun h => h b = some o) := fun _ ⟨_, _, _, _, m, x⟩ => m _ _ x
theorem sees_pblk (b : Nat) (o : Obj) : Sees (pblk b o) (fun h => h b = some o) := fun _ ⟨_, _, _, l, _, x⟩ => l _ _ x

theorem hp_alloc (w : World) (o : Obj) : Le (hp w) (hp (w.alloc o)) := fun b x e => by
  have hlt : b < w.heap.size := (Array.getElem?_eq_some_iff.1 e).1
  show (w.heap.push o)[b]? = some x
  rw [Array.getElem?_push_lt hlt]
  unfold hp at e
  rw [Array.getElem?_eq_getElem hlt] at e
  exact e
theorem hp_new (w : World) (o : Obj) : hp (w.alloc o) w.heap.size = some o := by
  show (w.heap.push o)[w.heap.size]? = some o
  simp
theorem hp_out (w : World) {b : Nat} (h : w.heap.size ≤ b) : hp w b = none := Array.getElem?_eq_none h
theorem hp_in {w : World} {b : Nat} {o : Obj} (h : hp w b = some o) : b < w.heap.size := (Array.getElem?_eq_some_iff.1 h).1

/-- A new block is the one who made it's own. -/
theorem holds.alloc {A : SProp} {w : World} (h : holds A w) (o : Obj) : holds (star (blk w.heap.size o) A) (w.alloc o) := by
  obtain ⟨B, k, d, l, m, x⟩ := h
  have hB : B w.heap.size = none := by
    cases e : B w.heap.size with
    | none => rfl
    | some y => have := l _ _ e; rw [hp_out w (Nat.le_refl _)] at this; cases this
  have hk : k w.heap.size = none := by
    cases e : k w.heap.size with
    | none => rfl
    | some y => have := m _ _ e; rw [hp_out w (Nat.le_refl _)] at this; cases this
  have d1 : ∀ g : Hp, g w.heap.size = none → Dj g (one w.heap.size o) := fun g hg b => by
    by_cases e : b = w.heap.size
    · subst e; exact .inl hg
    · right; simp [one, e]
  refine ⟨B, un k (one w.heap.size o), Dj.un d (d1 B hB), l.trans (hp_alloc w o), Le.un (m.trans (hp_alloc w o)) (.one (hp_new w o)), ?_⟩
  exact ⟨one w.heap.size o, k, (d1 k hk).symm, .un_right (d1 k hk), .un_left _ _, one_same _ _, x⟩

/-- What is owned may be changed. -/
theorem holds.update {A : SProp} {w w' : World} {b : Nat} {o o' : Obj} (h : holds (star (blk b o) A) w) (hb : hp w' b = some o') (ho : ∀ k, k ≠ b → hp w' k = hp w k) :
    holds (star (blk b o') A) w' := by
  obtain ⟨B, k, d, l, m, k1, k2, d12, l1, l2, x, y⟩ := h
  have x' : k1 b = some o := x
  have hB : B b = none := (d b).resolve_right (by rw [l1 _ _ x']; simp)
  have h2 : k2 b = none := (d12 b).resolve_left (by rw [x']; simp)
  have far : ∀ g : Hp, g b = none → Le g (hp w) → Le g (hp w') := fun g hg lg i z e => by
    by_cases hi : i = b
    · subst hi; rw [hg] at e; cases e
    · rw [ho i hi]; exact lg _ _ e
  have d1 : ∀ g : Hp, g b = none → Dj g (one b o') := fun g hg i => by
    by_cases e : i = b
    · subst e; exact .inl hg
    · right; simp [one, e]
  refine ⟨B, un k2 (one b o'), Dj.un (d.le_right l2) (d1 B hB), far B hB l, Le.un (far k2 h2 (l2.trans m)) (.one hb), ?_⟩
  exact ⟨one b o', k2, (d1 k2 h2).symm, .un_right (d1 k2 h2), .un_left _ _, one_same _ _, y⟩

/-- What is owned may be given up: from then on nobody changes it. -/
theorem holds.freeze {A : SProp} {w : World} {b : Nat} {o : Obj} (h : holds (star (blk b o) A) w) : holds (star (pblk b o) A) w := by
  obtain ⟨B, k, d, l, m, k1, k2, d12, l1, l2, x, y⟩ := h
  have x' : k1 b = some o := x
  have h2 : k2 b = none := (d12 b).resolve_left (by rw [x']; simp)
  have d2 : Dj (one b o) k2 := fun i => by
    by_cases e : i = b
    · subst e; exact .inr h2
    · left; simp [one, e]
  refine ⟨un B (one b o), k2, ?_, Le.un l (.one (m _ _ (l1 _ _ x'))), l2.trans m, hnil, k2, (Dj.nil k2).symm, .nil _, .refl _, ?_, ?_⟩
  · exact (Dj.un (d.le_right l2).symm d2.symm).symm
  · show un B (one b o) b = some o
    have hB : B b = none := (d b).resolve_right (by rw [l1 _ _ x']; simp)
    simp [un, hB, one]
  · exact A.mono (.un_left _ _) (.refl _) y
/-- An owned block is none of those that stay, and no other owned one. -/
theorem holds.ne_blk {b b' : Nat} {o o' : Obj} {A : SProp} {w : World} (h : holds (star (blk b o) (star (blk b' o') A)) w) : b ≠ b' := by
  obtain ⟨B, k, d, l, m, k1, k2, d12, l1, l2, x, k3, k4, d34, l3, l4, y, z⟩ := h
  rintro rfl
  have x' : k1 b = some o := x
  have y' : k3 b = some o' := y
  rcases d12 b with e | e
  · rw [x'] at e; cases e
  · rw [l3 _ _ y'] at e; cases e
theorem holds.pu {p : Prop} {A : SProp} {w : World} (h : holds (star (pu p) A) w) : p ∧ holds A w := by
  obtain ⟨B, k, d, l, m, k1, k2, d12, l1, l2, x, y⟩ := h
  exact ⟨x, B, k2, d.le_right l2, l, l2.trans m, y⟩
theorem holds.ex {α : Type} {C : α → SProp} {A : SProp} {w : World} (h : holds (star (ex C) A) w) : ∃ x, holds (star (C x) A) w := by
  obtain ⟨B, k, d, l, m, k1, k2, d12, l1, l2, ⟨x, hx⟩, y⟩ := h
  exact ⟨x, B, k, d, l, m, k1, k2, d12, l1, l2, hx, y⟩

/-! ### A world that came out of another one -/
structure Std (w w' : World) : Prop where
  os : w'.os = w.os
  tape : w'.tape = w.tape
  output : w'.output = w.output
  size : w.heap.size ≤ w'.heap.size
theorem Std.refl (w : World) : Std w w := ⟨rfl, rfl, rfl, Nat.le_refl _⟩
theorem Std.trans {a b c : World} (h : Std a b) (k : Std b c) : Std a c := ⟨k.os.trans h.os, k.tape.trans h.tape, k.output.trans h.output, Nat.le_trans h.size k.size⟩
theorem Std.alloc (w : World) (o : Obj) : Std w (w.alloc o) := ⟨rfl, rfl, rfl, by simp⟩
theorem Std.drew (w : World) : Std w w.drew := ⟨rfl, rfl, rfl, Nat.le_refl _⟩
theorem Std.putObj (w : World) (b : Nat) (o : Obj) : Std w (w.putObj b o) := ⟨rfl, rfl, rfl, by simp⟩

theorem holds.putObj {A : SProp} {w : World} {b : Nat} {o : Obj} (o' : Obj) (h : holds (star (blk b o) A) w) : holds (star (blk b o') A) (w.putObj b o') := by
  have hb : hp w b = some o := (Sees.left (sees_blk b o)) w h
  exact h.update (World.putObj_heap_same (hp_in hb)) (fun k hk => World.putObj_heap_other hk)

/-- The whole of a world, as an assertion: with it a call keeps all that was there. -/
def whole (w : World) : SProp := ⟨fun B _ => Le (hp w) B, fun l _ e => e.trans l⟩
theorem holds_whole (w : World) : holds (whole w) w := ⟨hp w, hnil, .nil _, .refl _, .nil _, Le.refl _⟩
theorem sees_whole (w : World) : Sees (whole w) (fun h => Le (hp w) h) := fun _ ⟨_, _, _, l, _, x⟩ => Le.trans x l

end Go.Sl
/- The walk over the separation logic: goals, control, operations. Plain library, no program in sight. -/
namespace Go.Sl
open Go Go.Proofs

/-! ### Frames -/
def upd (ρ : Nat → Value) (d : Nat) (v : Value) : Nat → Value := fun i => cond (Nat.beq i d) v (ρ i)
def updo (ρ : Nat → Value) (d : Option Nat) (v : Value) : Nat → Value := match d with | some d => upd ρ d v | none => ρ
def markOf (D : Nat) : Deferred := { target := .collected D, args := #[] }
def act (n : Nat) (ρ : Nat → Value) (ds : List Nat) : Act := { tmps := Array.ofFn (n := n) fun i => ρ i.1, defers := ds.map markOf }
def ev (n : Nat) (ρ : Nat → Value) : Operand → Value
  | .tmp t => cond (Nat.blt t n) (ρ t) undef
  | .const v => v
  | .global g => .pointer (some ⟨g, 0, none⟩)
  | .func f => .func (.func f) #[] #[]
theorem upd_same (ρ : Nat → Value) (d : Nat) (v : Value) : upd ρ d v d = v := by simp [upd]
theorem upd_ne (ρ : Nat → Value) {d i : Nat} (v : Value) (h : i ≠ d) : upd ρ d v i = ρ i := by
  have : Nat.beq i d = false := by
    cases hc : Nat.beq i d with
    | false => rfl
    | true => exact absurd (Nat.eq_of_beq_eq_true hc) h
  simp [upd, this]
theorem upd_self (ρ : Nat → Value) {d : Nat} {v : Value} (h : ρ d = v) : upd ρ d v = ρ := by
  funext i
  by_cases e : i = d
  · subst e; rw [upd_same, h]
  · rw [upd_ne _ _ e]
theorem act_eval (n : Nat) (ρ : Nat → Value) (ds : List Nat) : (act n ρ ds).eval = ev n ρ := by
  funext x
  cases x with
  | tmp t =>
    simp only [Act.eval, act, ev]
    by_cases h : t < n
    · have hb : Nat.blt t n = true := by simpa [Nat.blt_eq] using h
      simp [hb, h]
    · have hb : Nat.blt t n = false := by
        cases hc : Nat.blt t n with
        | false => rfl
        | true => exact absurd (by rwa [Nat.blt_eq] at hc) h
      simp [hb, h]
  | _ => rfl
theorem act_put (n : Nat) (ρ : Nat → Value) (ds : List Nat) (d : Option Nat) (v : Value) : (act n ρ ds).put d v = act n (updo ρ d v) ds := by
  cases d with
  | none => rfl
  | some d =>
    simp only [Act.put, act, updo]
    congr 1
    apply Array.ext
    · simp
    · intro i h1 h2
      simp only [Array.size_setIfInBounds, Array.size_ofFn] at h1
      rw [Array.getElem_setIfInBounds (by simpa using h1)]
      by_cases e : d = i
      · subst e; simp [upd]
      · have hne : ¬ i = d := fun h => e h.symm
        simp [e, upd_ne _ _ hne]
theorem act_tmp (n : Nat) (ρ : Nat → Value) (ds : List Nat) (t : Nat) : (act n ρ ds).tmps[t]? = cond (Nat.blt t n) (some (ρ t)) none := by
  simp only [act]
  by_cases h : t < n
  · have hb : Nat.blt t n = true := by simpa [Nat.blt_eq] using h
    simp [hb, h]
  · have hb : Nat.blt t n = false := by
      cases hc : Nat.blt t n with
      | false => rfl
      | true => exact absurd (by rwa [Nat.blt_eq] at hc) h
    simp [hb, h]
theorem entry_act (n : Nat) (args : Array Value) (h : args.size ≤ n) : ({ tmps := args ++ Array.replicate (n - args.size) undef, defers := [] } : Act) = act n (fun i => args.getD i undef) [] := by
  simp only [act, List.map_nil]
  congr 1
  apply Array.ext
  · simp; omega
  · intro i h1 h2
    simp at h1 h2
    by_cases e : i < args.size
    · simp [e]
    · rw [Array.getElem_append_right (by omega)]; simp [e]

def WF (ro : Option Nat) : Fence := { Fence.wide with round := ro }
theorem callsWF {ro : Option Nat} {n : Nat} {P : Program} {f : FuncId} {args : Array Value} {w : World} {R : Ending → World → Prop} : CallsIn (WF ro) n P f args w R ↔ Calls P f args w R :=
  callsIn_wide (n := n)

/-! ### Goals: from whatever world that came out of w0 and in which all of the list holds -/
def G (w0 : World) (A : SProp) (L : List SProp) (Φ : World → Prop) : Prop := ∀ w, Std w0 w → holds (star A (sl L)) w → Φ w

section
variable {w0 : World} {A : SProp} {L L' : List SProp} {Φ Ψ : World → Prop}
theorem G.mono (h : G w0 A L Φ) (k : ∀ w, Φ w → Ψ w) : G w0 A L Ψ := fun w s x => k w (h w s x)
theorem G.ent (e : Ent (sl L) (sl L')) (h : G w0 A L' Φ) : G w0 A L Φ := fun w s x => h w s (x.ent ((Ent.refl A).star e))
theorem G.perm (e : L.Perm L') (h : G w0 A L' Φ) : G w0 A L Φ := h.ent (sl_perm e)
theorem G.drop {X : SProp} (h : G w0 A L Φ) : G w0 A (X :: L) Φ := h.ent (Ent.right _ _)
theorem G.pu {p : Prop} (h : p → G w0 A L Φ) : G w0 A (pu p :: L) Φ := fun w s x => by
  obtain ⟨hp, hx⟩ := (x.ent (Ent.swap _ _ _)).pu
  exact h hp w s hx
theorem G.ex {α : Type} {C : α → SProp} (h : ∀ x, G w0 A (C x :: L) Φ) : G w0 A (ex C :: L) Φ := fun w s x => by
  obtain ⟨y, hy⟩ := (x.ent (Ent.swap _ _ _)).ex
  exact h y w s (hy.ent (Ent.swap _ _ _))
theorem G.freeze {b : Nat} {o : Obj} (h : G w0 A (pblk b o :: L) Φ) : G w0 A (blk b o :: L) Φ := fun w s x =>
  h w s ((x.ent (Ent.swap _ _ _)).freeze.ent (Ent.swap _ _ _))
theorem G.open_star {X Y : SProp} (h : G w0 A (X :: Y :: L) Φ) : G w0 A (star X Y :: L) Φ := h.ent (L' := X :: Y :: L) (Ent.assoc X Y (sl L))
theorem G.open_sl {M : List SProp} (h : G w0 A (M ++ L) Φ) : G w0 A (sl M :: L) Φ := h.ent (sl_append_of _ _)
end

/-! ### Finding things in a list of assertions -/
class HasBlk (L : List SProp) (b : Nat) (o : outParam Obj) : Prop where
  sees : Sees (sl L) (fun h => h b = some o)
instance (priority := low) HasBlk.tail {X : SProp} {L : List SProp} {b : Nat} {o : Obj} [h : HasBlk L b o] : HasBlk (X :: L) b o := ⟨h.sees.right⟩
instance HasBlk.head {L : List SProp} {b : Nat} {o : Obj} : HasBlk (blk b o :: L) b o := ⟨(sees_blk b o).left⟩
instance HasBlk.phead {L : List SProp} {b : Nat} {o : Obj} : HasBlk (pblk b o :: L) b o := ⟨(sees_pblk b o).left⟩

/-- Block b of the list may be changed. -/
class RepBlk (L : List SProp) (b : Nat) (o : outParam Obj) (f : outParam (Obj → List SProp)) : Prop where
  perm : ∃ M, L.Perm (blk b o :: M) ∧ ∀ o', (f o').Perm (blk b o' :: M)
instance (priority := low) RepBlk.tail {X : SProp} {L : List SProp} {b : Nat} {o : Obj} {f : Obj → List SProp} [h : RepBlk L b o f] : RepBlk (X :: L) b o (fun o' => X :: f o') :=
  ⟨let ⟨M, p, q⟩ := h.perm; ⟨X :: M, (p.cons X).trans (.swap _ _ _), fun o' => ((q o').cons X).trans (.swap _ _ _)⟩⟩
instance RepBlk.head {L : List SProp} {b : Nat} {o : Obj} : RepBlk (blk b o :: L) b o (fun o' => blk b o' :: L) := ⟨L, .refl _, fun _ => .refl _⟩

class Take1 (L : List SProp) (X : SProp) (M : outParam (List SProp)) : Prop where
  perm : L.Perm (X :: M)
instance (priority := low) Take1.tail {Y X : SProp} {L M : List SProp} [h : Take1 L X M] : Take1 (Y :: L) X (Y :: M) := ⟨(h.perm.cons Y).trans (.swap _ _ _)⟩
instance Take1.head {X : SProp} {L : List SProp} : Take1 (X :: L) X L := ⟨.refl _⟩
theorem perm_mid {X : SProp} {L M N : List SProp} (h : L.Perm (X :: N)) : (M ++ L).Perm (X :: (M ++ N)) := (h.append_left M).trans List.perm_middle
instance HasBlk.appl {L X : List SProp} {b : Nat} {o : Obj} [h : HasBlk L b o] : HasBlk (L ++ X) b o := ⟨h.sees.left.ent (sl_append_to L X)⟩
instance (priority := low) HasBlk.appr {L X : List SProp} {b : Nat} {o : Obj} [h : HasBlk X b o] : HasBlk (L ++ X) b o := ⟨h.sees.right.ent (sl_append_to L X)⟩
instance RepBlk.appl {L X : List SProp} {b : Nat} {o : Obj} {f : Obj → List SProp} [h : RepBlk L b o f] : RepBlk (L ++ X) b o (fun o' => f o' ++ X) :=
  ⟨let ⟨M, p, q⟩ := h.perm; ⟨M ++ X, p.append_right X, fun o' => (q o').append_right X⟩⟩
instance (priority := low) RepBlk.appr {L X : List SProp} {b : Nat} {o : Obj} {f : Obj → List SProp} [h : RepBlk X b o f] : RepBlk (L ++ X) b o (fun o' => L ++ f o') :=
  ⟨let ⟨M, p, q⟩ := h.perm; ⟨L ++ M, perm_mid p, fun o' => perm_mid (q o')⟩⟩
instance Take1.appl {X : SProp} {L M N : List SProp} [h : Take1 L X M] : Take1 (L ++ N) X (M ++ N) := ⟨h.perm.append_right N⟩
instance (priority := low) Take1.appr {X : SProp} {L M N : List SProp} [h : Take1 N X M] : Take1 (L ++ N) X (L ++ M) := ⟨perm_mid h.perm⟩
class Take (L : List SProp) (K : List SProp) (M : outParam (List SProp)) : Prop where
  perm : L.Perm (K ++ M)
instance Take.nil {L : List SProp} : Take L [] L := ⟨.refl _⟩
instance Take.cons {X : SProp} {L L1 K M : List SProp} [h : Take1 L X L1] [k : Take L1 K M] : Take L (X :: K) M := ⟨h.perm.trans (k.perm.cons X)⟩
instance (priority := low) Take.appr {L N K M : List SProp} [h : Take N K M] : Take (L ++ N) K (L ++ M) := ⟨by
  refine (h.perm.append_left L).trans ?_
  rw [← List.append_assoc, ← List.append_assoc]
  exact (List.perm_append_comm).append_right M⟩
instance (priority := low) Take.appl {L N K M : List SProp} [h : Take L K M] : Take (L ++ N) K (M ++ N) := ⟨by rw [← List.append_assoc]; exact h.perm.append_right N⟩
instance (priority := low) Take.drop {Y : SProp} {L K M : List SProp} [h : Take L K M] : Take (Y :: L) K (Y :: M) := ⟨(h.perm.cons Y).trans List.perm_middle.symm⟩
instance (priority := low) Take.self {L : List SProp} : Take L L [] := ⟨by rw [List.append_nil]⟩
/-- A frame's slots, checked one by one. -/
def Sat (ρ : Nat → Value) : List (Nat × Value) → Prop
  | [] => True
  | (d, v) :: l => ρ d = v ∧ Sat ρ l
theorem Sat.mem {ρ : Nat → Value} : ∀ {l : List (Nat × Value)}, Sat ρ l → ∀ p ∈ l, ρ p.1 = p.2
  | [], _, p, h => by simp at h
  | (d, v) :: l, ⟨h1, h2⟩, p, h => by
    rcases List.mem_cons.1 h with rfl | h
    · exact h1
    · exact h2.mem p h

section
variable {w0 : World} {A : SProp} {L : List SProp} {Φ : World → Prop}
/-- Some of the list first. -/
theorem G.bring (K : List SProp) {M : List SProp} [t : Take L K M] (h : G w0 A (K ++ M) Φ) : G w0 A L Φ := h.perm t.perm
theorem G.has {b : Nat} {o : Obj} [t : HasBlk L b o] (h : ∀ u, holds (star A (sl L)) u → hp u b = some o → Φ u) : G w0 A L Φ :=
  fun u _ x => h u x (t.sees.right u x)
end

theorem holds.rep {A : SProp} {L : List SProp} {w w' : World} {b : Nat} {o o' : Obj} {f : Obj → List SProp} [t : RepBlk L b o f] (h : holds (star A (sl L)) w) (hb : hp w' b = some o') (ho : ∀ k, k ≠ b → hp w' k = hp w k) :
    holds (star A (sl (f o'))) w' := by
  obtain ⟨M, p, q⟩ := t.perm
  have h1 := (h.ent ((Ent.refl A).star (sl_perm p))).ent (Ent.swap _ _ _)
  exact ((h1.update hb ho).ent (Ent.swap _ _ _)).ent ((Ent.refl A).star (sl_perm (q o').symm))
theorem RepBlk.sees {L : List SProp} {b : Nat} {o : Obj} {f : Obj → List SProp} [t : RepBlk L b o f] : Sees (sl L) (fun h => h b = some o) := by
  obtain ⟨M, p, _⟩ := t.perm
  exact (Sees.left (C := sl M) (sees_blk b o)).ent (sl_perm p)

/-! ### Control -/
section
variable {w0 : World} {A : SProp} {L : List SProp} {F : Fence} {m : Nat} {P : Program} {Q : Exit → Act → World → Prop} {a : Act}
theorem g_seq {x y : Code} (h : G w0 A L (fun w => x.wpIn F m P (Exit.then (y.wpIn F m P Q) Q) a w)) : G w0 A L (fun w => (Code.seq x y).wpIn F m P Q a w) := h.mono fun _ => wpIn_seq
theorem g_block {i : Nat} {c : Code} (h : G w0 A L (fun w => c.wpIn F m P (Exit.inBlock i Q) a w)) : G w0 A L (fun w => (Code.block i c).wpIn F m P Q a w) := h.mono fun _ => wpIn_block
theorem g_exit {i : Nat} (h : G w0 A L (fun w => Q (.exit i) a w)) : G w0 A L (fun w => (Code.exit i).wpIn F m P Q a w) := h.mono fun _ => wpIn_exit
theorem g_ret (h : G w0 A L (fun w => Q .ret a w)) : G w0 A L (fun w => Code.ret.wpIn F m P Q a w) := h.mono fun _ => wpIn_ret
theorem g_skip (h : G w0 A L (fun w => Q .normal a w)) : G w0 A L (fun w => Code.skip.wpIn F m P Q a w) := h.mono fun _ => wpIn_skip
theorem g_then {K : Act → World → Prop} (h : G w0 A L (fun w => K a w)) : G w0 A L (fun w => Exit.then K Q .normal a w) := h
theorem g_then_ret {K : Act → World → Prop} (h : G w0 A L (fun w => Q .ret a w)) : G w0 A L (fun w => Exit.then K Q .ret a w) := h
theorem g_then_exit {K : Act → World → Prop} {i : Nat} (h : G w0 A L (fun w => Q (.exit i) a w)) : G w0 A L (fun w => Exit.then K Q (.exit i) a w) := h
theorem g_in_normal {i : Nat} (h : G w0 A L (fun w => Q .normal a w)) : G w0 A L (fun w => Exit.inBlock i Q .normal a w) := h
theorem g_in_ret {i : Nat} (h : G w0 A L (fun w => Q .ret a w)) : G w0 A L (fun w => Exit.inBlock i Q .ret a w) := h
theorem g_in_exit {i j : Nat} (e : j = i) (h : G w0 A L (fun w => Q .normal a w)) : G w0 A L (fun w => Exit.inBlock i Q (.exit j) a w) := h.mono fun _ k => by
  show (if j = i then _ else _)
  rw [if_pos e]; exact k
theorem g_in_exit_ne {i j : Nat} (e : j ≠ i) (h : G w0 A L (fun w => Q (.exit j) a w)) : G w0 A L (fun w => Exit.inBlock i Q (.exit j) a w) := h.mono fun _ k => by
  show (if j = i then _ else _)
  rw [if_neg e]; exact k
theorem g_cond {n : Nat} {ρ : Nat → Value} {ds : List Nat} {c : Operand} {x y : Code} {t : Bool} (hc : ev n ρ c = .bool t)
    (h1 : t = true → G w0 A L (fun w => x.wpIn F m P Q (act n ρ ds) w)) (h0 : t = false → G w0 A L (fun w => y.wpIn F m P Q (act n ρ ds) w)) :
    G w0 A L (fun w => (Code.cond c x y).wpIn F m P Q (act n ρ ds) w) := by
  cases t with
  | true => exact (h1 rfl).mono fun _ h => wpIn_cond_true (by rw [act_eval]; exact hc) h
  | false => exact (h0 rfl).mono fun _ h => wpIn_cond_false (by rw [act_eval]; exact hc) h
theorem g_cond_t {n : Nat} {ρ : Nat → Value} {ds : List Nat} {c : Operand} {x y : Code} {t : Bool} (hc : ev n ρ c = .bool t) (ht : t = true)
    (h1 : G w0 A L (fun w => x.wpIn F m P Q (act n ρ ds) w)) : G w0 A L (fun w => (Code.cond c x y).wpIn F m P Q (act n ρ ds) w) := g_cond hc (fun _ => h1) (fun h => by rw [ht] at h; cases h)
theorem g_cond_f {n : Nat} {ρ : Nat → Value} {ds : List Nat} {c : Operand} {x y : Code} {t : Bool} (hc : ev n ρ c = .bool t) (ht : t = false)
    (h0 : G w0 A L (fun w => y.wpIn F m P Q (act n ρ ds) w)) : G w0 A L (fun w => (Code.cond c x y).wpIn F m P Q (act n ρ ds) w) := g_cond hc (fun h => by rw [ht] at h; cases h) (fun _ => h0)

/-- What is asked at a place where ways meet, or at a loop's head: a state of the family is there. -/
def Meets {σ : Type} (w0 : World) (A : SProp) (n : Nat) (ds : List Nat) (S : σ → List (Nat × Value)) (H : σ → List SProp) (ok : σ → Prop) (a : Act) (w : World) : Prop :=
  ∃ s ρ, ok s ∧ a = act n ρ ds ∧ (∀ p ∈ S s, ρ p.1 = p.2) ∧ Std w0 w ∧ holds (star A (sl (H s))) w
def updl (ρ : Nat → Value) : List (Nat × Value) → Nat → Value
  | [] => ρ
  | (d, v) :: l => upd (updl ρ l) d v
theorem updl_self {ρ : Nat → Value} {l : List (Nat × Value)} (h : ∀ p ∈ l, ρ p.1 = p.2) : updl ρ l = ρ := by
  induction l with
  | nil => rfl
  | cons p l ih =>
    obtain ⟨d, v⟩ := p
    simp only [updl]
    rw [ih fun q hq => h q (List.mem_cons_of_mem _ hq)]
    exact upd_self ρ (h (d, v) List.mem_cons_self)
theorem Meets.elim {σ : Type} {n : Nat} {ds : List Nat} {S : σ → List (Nat × Value)} {H : σ → List SProp} {ok : σ → Prop} {w : World} {Φ : Act → World → Prop} (h : Meets w0 A n ds S H ok a w)
    (k : ∀ s ρ, ok s → G w0 A (H s) (fun w => Φ (act n (updl ρ (S s)) ds) w)) : Φ a w := by
  obtain ⟨s, ρ, ho, rfl, hs, hw, hh⟩ := h
  have := k s ρ ho w hw hh
  rwa [updl_self hs] at this
/-- A cut. -/
theorem g_cut {σ : Type} {n : Nat} {ρ : Nat → Value} {ds ds' : List Nat} {x y : Code} (S : σ → List (Nat × Value)) (H : σ → List SProp) (ok : σ → Prop)
    (h : G w0 A L (fun w => x.wpIn F m P (Exit.then (Meets w0 A n ds' S H ok) Q) (act n ρ ds) w))
    (k : ∀ s ρ', ok s → G w0 A (H s) (fun w => y.wpIn F m P Q (act n (updl ρ' (S s)) ds') w)) : G w0 A L (fun w => (Code.seq x y).wpIn F m P Q (act n ρ ds) w) := by
  refine h.mono fun _ hw => wpIn_seq (wpIn_mono hw ?_)
  intro e a w' hq
  cases e with
  | normal => exact Meets.elim (Φ := fun a w => y.wpIn F m P Q a w) hq k
  | _ => exact hq
/-- A cut where what follows stands in the exit already. -/
theorem g_cutk {σ : Type} {n : Nat} {ρ : Nat → Value} {ds ds' : List Nat} {x : Code} {K : Act → World → Prop} (S : σ → List (Nat × Value)) (H : σ → List SProp) (ok : σ → Prop)
    (h : G w0 A L (fun w => x.wpIn F m P (Exit.then (Meets w0 A n ds' S H ok) Q) (act n ρ ds) w))
    (k : ∀ s ρ', ok s → G w0 A (H s) (fun w => K (act n (updl ρ' (S s)) ds') w)) : G w0 A L (fun w => x.wpIn F m P (Exit.then K Q) (act n ρ ds) w) := by
  refine h.mono fun _ hw => wpIn_mono hw ?_
  intro e a w' hq
  cases e with
  | normal => exact Meets.elim (Φ := K) hq k
  | _ => exact hq
theorem g_meets {σ : Type} {n : Nat} {ρ : Nat → Value} {ds : List Nat} {S : σ → List (Nat × Value)} {H : σ → List SProp} {ok : σ → Prop} {M : List SProp} (s : σ) (ho : ok s) (hs : ∀ p ∈ S s, ρ p.1 = p.2) [t : Take L (H s) M] :
    G w0 A L (fun w => Meets w0 A n ds S H ok (act n ρ ds) w) := fun _ hw hh =>
  ⟨s, ρ, ho, rfl, hs, hw, hh.ent ((Ent.refl A).star ((sl_perm t.perm).trans ((sl_append_to _ _).trans (Ent.left _ _))))⟩
/-- A loop, its measure read off a state that need not be seen in the frame. -/
theorem wpIn_loop_by {σ : Type} {c : Code} {w : World} (I : σ → Act → World → Prop) (μ : σ → Nat) (s0 : σ) (h0 : I s0 a w)
    (round : ∀ s a w, I s a w → c.wpIn F m P (Exit.then (fun a' w' => ∃ s', I s' a' w' ∧ μ s' < μ s) Q) a w) : (Code.loop c).wpIn F m P Q a w := by
  intro b k cs hro hb hr
  have key : ∀ j s a w, μ s = j → I s a w →
      ∃ e a' w', Q e a' w' ∧ ArrivesIn (Machine.fenced P F) P (lone (b.atR a (.code c :: .inLoop c :: k)) cs w) b k cs e a' w' := by
    intro j
    induction j using Nat.strongRecOn with
    | _ j ih =>
      intro s a w hn hI
      obtain ⟨e, a₁, w₁, hq, harr⟩ := round s a w hI b (.inLoop c :: k) cs hro hb hr
      cases e with
      | normal =>
        obtain ⟨s', hI₁, hlt⟩ := hq
        obtain ⟨e₂, a₂, w₂, hq₂, harr₂⟩ := ih (μ s') (hn ▸ hlt) s' a₁ w₁ rfl hI₁
        exact ⟨e₂, a₂, w₂, hq₂, .of_steps (StepsIn.trans harr (.one (fenced_calm hb hr rfl) stepR_inLoop)) harr₂⟩
      | exit id => exact ⟨_, a₁, w₁, hq, .pass (x := .inLoop c) rfl (fun _ _ => .inl (by simp)) harr⟩
      | goto l => exact ⟨_, a₁, w₁, hq, .pass (x := .inLoop c) rfl (fun _ _ => .inl (by simp)) harr⟩
      | ret => exact ⟨_, a₁, w₁, hq, .pass (x := .inLoop c) rfl (fun _ _ => .inl (by simp)) harr⟩
      | panic ch => exact ⟨_, a₁, w₁, hq, .pass (x := .inLoop c) rfl (fun _ _ => .inl (by simp)) harr⟩
      | outgrown => exact ⟨_, a₁, w₁, hq, .pass (x := .inLoop c) rfl (fun _ _ => .inl (by simp)) harr⟩
  obtain ⟨e, a', w', hq, harr⟩ := key _ s0 a w rfl h0
  exact ⟨e, a', w', hq, .of_steps (.one (fenced_calm hb hr rfl) stepR_loop) harr⟩
/-- A loop. -/
theorem g_loop {σ : Type} {n : Nat} {ρ : Nat → Value} {ds : List Nat} {c : Code} (S : σ → List (Nat × Value)) (H : σ → List SProp) (μ : σ → Nat) (s0 : σ) {M : List SProp}
    (h0 : ∀ p ∈ S s0, ρ p.1 = p.2) [t : Take L (H s0) M]
    (k : ∀ s ρ', G w0 A (H s) (fun w => c.wpIn F m P (Exit.then (Meets w0 A n ds S H (fun s' => μ s' < μ s)) Q) (act n (updl ρ' (S s)) ds) w)) :
    G w0 A L (fun w => (Code.loop c).wpIn F m P Q (act n ρ ds) w) := by
  intro w hw hh
  refine wpIn_loop_by (fun s a w => ∃ ρ, a = act n ρ ds ∧ (∀ p ∈ S s, ρ p.1 = p.2) ∧ Std w0 w ∧ holds (star A (sl (H s))) w) μ s0
    ⟨ρ, rfl, h0, hw, hh.ent ((Ent.refl A).star ((sl_perm t.perm).trans ((sl_append_to _ _).trans (Ent.left _ _))))⟩ ?_
  rintro s a w ⟨ρ, rfl, hs, hw, hh⟩
  have := k s ρ w hw hh
  rw [updl_self hs] at this
  refine wpIn_mono this ?_
  intro e a' w' hq
  cases e with
  | normal =>
    obtain ⟨s', ρ', ho, ha, hs', hw', hh'⟩ := hq
    exact ⟨s', ⟨ρ', ha, hs', hw', hh'⟩, ho⟩
  | _ => exact hq
end
end Go.Sl
/- The walk's operations. Plain library, no program in sight. -/
namespace Go.Sl
open Go Go.Proofs

/-- A region's operations, one behind the other. -/
def runL (ro : Option Nat) (P : Program) (all : Array Oper) (Q : Exit → Act → World → Prop) : List Oper → Act → World → Prop
  | [], a, w => Q .normal a w
  | o :: os, a, w => if Region.wanted o (yielded all a.tmps) then o.wpIn (WF ro) 0 P a w (runL ro P all Q os) Q else runL ro P all Q os (a.put o.dst undef) w

theorem runL_sound_from {ro : Option Nat} {P : Program} {all : Array Oper} {Q : Exit → Act → World → Prop} : ∀ (os : List Oper) (k : Nat), all.toList.drop k = os → ∀ (a : Act) (w : World),
    runL ro P all Q os a w → wpOpsIn (WF ro) 0 P all Q (List.range' k os.length) a w
  | [], _, _, _, _, h => h
  | o :: os, k, hd, a, w, h => by
    have hk : all[k]? = some o := by
      have := congrArg (fun l => l[0]?) hd
      simpa using this
    have hd' : all.toList.drop (k + 1) = os := by
      have := congrArg List.tail hd
      simpa using this
    simp only [List.length_cons, List.range'_succ, wpOpsIn, hk]
    simp only [runL] at h
    split
    · rename_i hw
      rw [if_pos hw] at h
      exact Oper.wpIn_mono (fun a w h => runL_sound_from os (k + 1) hd' a w h) h
    · rename_i hw
      rw [if_neg hw] at h
      exact ⟨fun _ _ => trivial, runL_sound_from os (k + 1) hd' _ w h⟩
theorem runL_sound {ro : Option Nat} {P : Program} {all : Array Oper} {Q : Exit → Act → World → Prop} {a : Act} {w : World} (h : runL ro P all Q all.toList a w) : wpOpsIn (WF ro) 0 P all Q (List.range all.size) a w := by
  have := runL_sound_from (ro := ro) (P := P) (all := all) (Q := Q) all.toList 0 (by simp) a w h
  rwa [List.range_eq_range', ← Array.length_toList]

section
variable {w0 : World} {A : SProp} {L : List SProp} {ro : Option Nat} {P : Program} {Q : Exit → Act → World → Prop} {all : Array Oper} {os : List Oper} {n : Nat} {ρ : Nat → Value} {ds : List Nat}

theorem g_region {i : Nat} {l : List Oper} {a : Act} (h : G w0 A L (fun w => runL ro P l.toArray Q l a w)) : G w0 A L (fun w => (Code.region i l.toArray false).wpIn (WF ro) 0 P Q a w) :=
  h.mono fun _ k => wpIn_region (runL_sound (by simpa using k))
theorem g_end {a : Act} (h : G w0 A L (fun w => Q .normal a w)) : G w0 A L (fun w => runL ro P all Q [] a w) := h
theorem g_endt {a : Act} {K : Act → World → Prop} (h : G w0 A L (fun w => K a w)) : G w0 A L (fun w => runL ro P all (Exit.then K Q) [] a w) := h

/-- An operation whose guard asks for it. -/
theorem o_want {o : Oper} {j t : Nat} {b e : Bool} (hg : o.guard = some (j, b)) (hj : (all[j]?).bind (·.dst) = some t) (ht : ev n ρ (.tmp t) = .bool e) (hlt : Nat.blt t n = true) (he : e = b)
    (h : G w0 A L (fun w => runL ro P all Q ({ o with guard := none } :: os) (act n ρ ds) w)) : G w0 A L (fun w => runL ro P all Q (o :: os) (act n ρ ds) w) := by
  refine h.mono fun w k => ?_
  have hw : Region.wanted o (yielded all (act n ρ ds).tmps) = true := by
    simp only [ev, hlt, cond_true] at ht
    simp [Region.wanted, hg, yielded, hj, act_tmp, hlt, ht, he]
  simp only [runL, hw, if_true]
  simp only [runL, Region.wanted, if_true] at k
  exact k
theorem o_unwanted {o : Oper} {j t : Nat} {b e : Bool} (hg : o.guard = some (j, b)) (hj : (all[j]?).bind (·.dst) = some t) (ht : ev n ρ (.tmp t) = .bool e) (hlt : Nat.blt t n = true) (he : e = !b)
    (h : G w0 A L (fun w => runL ro P all Q os (act n (updo ρ o.dst undef) ds) w)) : G w0 A L (fun w => runL ro P all Q (o :: os) (act n ρ ds) w) := by
  refine h.mono fun w k => ?_
  have hw : Region.wanted o (yielded all (act n ρ ds).tmps) = false := by
    simp only [ev, hlt, cond_true] at ht
    simp [Region.wanted, hg, yielded, hj, act_tmp, hlt, ht, he]
  simp only [runL, hw, if_false, Bool.false_eq_true]
  rw [act_put]
  exact k
/-- A guard that asks for a value that is undefined (its own operation was passed over). -/
theorem o_undef {o : Oper} {j t : Nat} {b : Bool} (hg : o.guard = some (j, b)) (hj : (all[j]?).bind (·.dst) = some t) (ht : ρ t = undef)
    (h : G w0 A L (fun w => runL ro P all Q os (act n (updo ρ o.dst undef) ds) w)) : G w0 A L (fun w => runL ro P all Q (o :: os) (act n ρ ds) w) := by
  refine h.mono fun w k => ?_
  have hw : Region.wanted o (yielded all (act n ρ ds).tmps) = false := by
    simp [Region.wanted, hg, yielded, hj, act_tmp, ht, undef]
    cases hc : Nat.blt t n <;> simp
  simp only [runL, hw, if_false, Bool.false_eq_true]
  rw [act_put]
  exact k

theorem o_run {o : Oper} (hg : o.guard = none) (h : G w0 A L (fun w => o.wpIn (WF ro) 0 P (act n ρ ds) w (runL ro P all Q os) Q)) : G w0 A L (fun w => runL ro P all Q (o :: os) (act n ρ ds) w) := by
  refine h.mono fun w k => ?_
  simp only [runL, Region.wanted, hg, if_true]
  exact k

/-- An operation that yields a value and leaves the world as it is. -/
theorem o_val {o : Oper} {v : Value} (hg : o.guard = none) (hd : ∀ c, o.op ≠ .defer c) (hv : ∀ w, Std w0 w → holds (star A (sl L)) w → (execOp (ev n ρ) o).run P w = .ok (.value v) w)
    (h : G w0 A L (fun w => runL ro P all Q os (act n (updo ρ o.dst v) ds) w)) : G w0 A L (fun w => runL ro P all Q (o :: os) (act n ρ ds) w) := by
  refine o_run hg fun w hw hh => ?_
  refine ⟨fun _ _ => trivial, ?_⟩
  rw [Oper.semAt_eq _ _ _ hd, act_eval, hv w hw hh]
  show runL ro P all Q os ((act n ρ ds).put o.dst v) w
  rw [act_put]
  exact h w hw hh

variable {d : Option Tmp} {ty : TypeId} {pos : String} {af : Array Edge}

theorem o_move {x : Operand} (h : G w0 A L (fun w => runL ro P all Q os (act n (updo ρ d (ev n ρ x)) ds) w)) :
    G w0 A L (fun w => runL ro P all Q ({ dst := d, op := .move x, type := ty, pos := pos, after := af, guard := none } :: os) (act n ρ ds) w) :=
  o_val rfl (by intro c e; cases e) (fun _ _ _ => rfl) h
theorem o_assign {x : Operand} (h : G w0 A L (fun w => runL ro P all Q os (act n (updo ρ d (ev n ρ x)) ds) w)) :
    G w0 A L (fun w => runL ro P all Q ({ dst := d, op := .assign x, type := ty, pos := pos, after := af, guard := none } :: os) (act n ρ ds) w) :=
  o_val rfl (by intro c e; cases e) (fun _ _ _ => rfl) h
theorem o_pick {c x y : Operand} {t : Bool} (hc : ev n ρ c = .bool t) (h : G w0 A L (fun w => runL ro P all Q os (act n (updo ρ d (cond t (ev n ρ x) (ev n ρ y))) ds) w)) :
    G w0 A L (fun w => runL ro P all Q ({ dst := d, op := .pick c x y, type := ty, pos := pos, after := af, guard := none } :: os) (act n ρ ds) w) :=
  o_val rfl (by intro c e; cases e) (fun w _ _ => by
    simp only [execOp, hc, asBool]
    cases t <;> rfl) h
theorem o_pick_t {c x y : Operand} {t : Bool} (hc : ev n ρ c = .bool t) (ht : t = true) (h : G w0 A L (fun w => runL ro P all Q os (act n (updo ρ d (ev n ρ x)) ds) w)) :
    G w0 A L (fun w => runL ro P all Q ({ dst := d, op := .pick c x y, type := ty, pos := pos, after := af, guard := none } :: os) (act n ρ ds) w) := by subst ht; exact o_pick hc h
theorem o_pick_f {c x y : Operand} {t : Bool} (hc : ev n ρ c = .bool t) (ht : t = false) (h : G w0 A L (fun w => runL ro P all Q os (act n (updo ρ d (ev n ρ y)) ds) w)) :
    G w0 A L (fun w => runL ro P all Q ({ dst := d, op := .pick c x y, type := ty, pos := pos, after := af, guard := none } :: os) (act n ρ ds) w) := by subst ht; exact o_pick hc h

theorem run_v {s : Sem Value} {v : Value} {w : World} (h : s.run P w = .ok v w) : Sem.run P (do pure (Next.value (← s)) : Sem Next) w = .ok (.value v) w := by
  simp [h]

/-! #### Two operands -/
variable {x y : Operand} {xt yt : TypeId}
theorem run_bin {op : BinOp} {v : Value} {w : World} (hgd : (eqGuard op xt x y (ev n ρ x) (ev n ρ y)).run P w = .ok () w) (h : (binOp op xt (ev n ρ x) (ev n ρ y)).run P w = .ok v w) :
    (execOp (ev n ρ) { dst := d, op := .binOp op xt x y yt, type := ty, pos := pos, after := af, guard := none }).run P w = .ok (.value v) w := by
  simp only [execOp]
  refine run_v ?_
  simp [Sem.run_bind, hgd, h]
theorem guard_int {op : BinOp} {k k' : IntKind} {a b : Int} {w : World} : (eqGuard op xt x y (.int k a) (.int k' b)).run P w = .ok () w := by
  unfold eqGuard
  cases op <;> rfl
theorem o_int {op : BinOp} {k : IntKind} {a b : Int} {v : Value} (hx : ev n ρ x = .int k a) (hy : ev n ρ y = .int k b) (hv : ∀ w : World, (binOp op xt (.int k a) (.int k b)).run P w = .ok v w)
    (h : G w0 A L (fun w => runL ro P all Q os (act n (updo ρ d v) ds) w)) :
    G w0 A L (fun w => runL ro P all Q ({ dst := d, op := .binOp op xt x y yt, type := ty, pos := pos, after := af, guard := none } :: os) (act n ρ ds) w) :=
  o_val rfl (by intro c e; cases e) (fun w _ _ => run_bin (by rw [hx, hy]; exact guard_int) (by rw [hx, hy]; exact hv w)) h
section
variable {k : IntKind} {a b : Int} (hx : ev n ρ x = .int k a) (hy : ev n ρ y = .int k b)
include hx hy
theorem o_lss (h : G w0 A L (fun w => runL ro P all Q os (act n (updo ρ d (.bool (decide (a < b)))) ds) w)) :
    G w0 A L (fun w => runL ro P all Q ({ dst := d, op := .binOp .lss xt x y yt, type := ty, pos := pos, after := af, guard := none } :: os) (act n ρ ds) w) := o_int hx hy (fun w => by simp [binOp, Op.intCmp]) h
theorem o_gtr (h : G w0 A L (fun w => runL ro P all Q os (act n (updo ρ d (.bool (decide (a > b)))) ds) w)) :
    G w0 A L (fun w => runL ro P all Q ({ dst := d, op := .binOp .gtr xt x y yt, type := ty, pos := pos, after := af, guard := none } :: os) (act n ρ ds) w) := o_int hx hy (fun w => by simp [binOp, Op.intCmp]) h
theorem o_geq (h : G w0 A L (fun w => runL ro P all Q os (act n (updo ρ d (.bool (decide (a ≥ b)))) ds) w)) :
    G w0 A L (fun w => runL ro P all Q ({ dst := d, op := .binOp .geq xt x y yt, type := ty, pos := pos, after := af, guard := none } :: os) (act n ρ ds) w) := o_int hx hy (fun w => by simp [binOp, Op.intCmp]) h
theorem o_eql (h : G w0 A L (fun w => runL ro P all Q os (act n (updo ρ d (.bool (a == b))) ds) w)) :
    G w0 A L (fun w => runL ro P all Q ({ dst := d, op := .binOp .eql xt x y yt, type := ty, pos := pos, after := af, guard := none } :: os) (act n ρ ds) w) := o_int hx hy (fun w => by simp [binOp, Op.intCmp]) h
theorem o_neq (h : G w0 A L (fun w => runL ro P all Q os (act n (updo ρ d (.bool (a != b))) ds) w)) :
    G w0 A L (fun w => runL ro P all Q ({ dst := d, op := .binOp .neq xt x y yt, type := ty, pos := pos, after := af, guard := none } :: os) (act n ρ ds) w) := o_int hx hy (fun w => by simp [binOp, Op.intCmp]) h
theorem o_addw (h : G w0 A L (fun w => runL ro P all Q os (act n (updo ρ d (.int k (k.wrap (a + b)))) ds) w)) :
    G w0 A L (fun w => runL ro P all Q ({ dst := d, op := .binOp .add xt x y yt, type := ty, pos := pos, after := af, guard := none } :: os) (act n ρ ds) w) := o_int hx hy (fun w => by simp [binOp, Op.intArith]) h
theorem o_subw (h : G w0 A L (fun w => runL ro P all Q os (act n (updo ρ d (.int k (k.wrap (a - b)))) ds) w)) :
    G w0 A L (fun w => runL ro P all Q ({ dst := d, op := .binOp .sub xt x y yt, type := ty, pos := pos, after := af, guard := none } :: os) (act n ρ ds) w) := o_int hx hy (fun w => by simp [binOp, Op.intArith]) h
theorem o_quow (hb : b ≠ 0) (h : G w0 A L (fun w => runL ro P all Q os (act n (updo ρ d (.int k (k.wrap (a.tdiv b)))) ds) w)) :
    G w0 A L (fun w => runL ro P all Q ({ dst := d, op := .binOp .quo xt x y yt, type := ty, pos := pos, after := af, guard := none } :: os) (act n ρ ds) w) := o_int hx hy (fun w => by simp [binOp, Op.intDiv, hb]) h
theorem o_rem (hb : b ≠ 0) (h : G w0 A L (fun w => runL ro P all Q os (act n (updo ρ d (.int k (a.tmod b))) ds) w)) :
    G w0 A L (fun w => runL ro P all Q ({ dst := d, op := .binOp .rem xt x y yt, type := ty, pos := pos, after := af, guard := none } :: os) (act n ρ ds) w) := o_int hx hy (fun w => by simp [binOp, Op.intDiv, hb]) h
end
section
variable {a b c : Int} (hx : ev n ρ x = .int .i64 a) (hy : ev n ρ y = .int .i64 b)
include hx hy
theorem o_add (hc : a + b = c) (h1 : -9223372036854775808 ≤ c) (h2 : c ≤ 9223372036854775807) (h : G w0 A L (fun w => runL ro P all Q os (act n (updo ρ d (.int .i64 c)) ds) w)) :
    G w0 A L (fun w => runL ro P all Q ({ dst := d, op := .binOp .add xt x y yt, type := ty, pos := pos, after := af, guard := none } :: os) (act n ρ ds) w) :=
  o_addw hx hy (by rw [hc, IntWalk.i64_in c ⟨h1, h2⟩]; exact h)
theorem o_sub (hc : a - b = c) (h1 : -9223372036854775808 ≤ c) (h2 : c ≤ 9223372036854775807) (h : G w0 A L (fun w => runL ro P all Q os (act n (updo ρ d (.int .i64 c)) ds) w)) :
    G w0 A L (fun w => runL ro P all Q ({ dst := d, op := .binOp .sub xt x y yt, type := ty, pos := pos, after := af, guard := none } :: os) (act n ρ ds) w) :=
  o_subw hx hy (by rw [hc, IntWalk.i64_in c ⟨h1, h2⟩]; exact h)
theorem o_quo (hb : b ≠ 0) (hc : a.tdiv b = c) (h1 : -9223372036854775808 ≤ c) (h2 : c ≤ 9223372036854775807) (h : G w0 A L (fun w => runL ro P all Q os (act n (updo ρ d (.int .i64 c)) ds) w)) :
    G w0 A L (fun w => runL ro P all Q ({ dst := d, op := .binOp .quo xt x y yt, type := ty, pos := pos, after := af, guard := none } :: os) (act n ρ ds) w) :=
  o_quow hx hy hb (by rw [hc, IntWalk.i64_in c ⟨h1, h2⟩]; exact h)
end
theorem o_sneq {s t : ByteArray} (hx : ev n ρ x = .string s) (hy : ev n ρ y = .string t) (h : G w0 A L (fun w => runL ro P all Q os (act n (updo ρ d (.bool (!(s.toList == t.toList)))) ds) w)) :
    G w0 A L (fun w => runL ro P all Q ({ dst := d, op := .binOp .neq xt x y yt, type := ty, pos := pos, after := af, guard := none } :: os) (act n ρ ds) w) :=
  o_val rfl (by intro c e; cases e) (fun w _ _ => run_bin (by rw [hx, hy]; rfl) (by rw [hx, hy]; rfl)) h
theorem o_slss {s t : ByteArray} (hx : ev n ρ x = .string s) (hy : ev n ρ y = .string t) (h : G w0 A L (fun w => runL ro P all Q os (act n (updo ρ d (.bool (Op.bytesLess s.toList t.toList))) ds) w)) :
    G w0 A L (fun w => runL ro P all Q ({ dst := d, op := .binOp .lss xt x y yt, type := ty, pos := pos, after := af, guard := none } :: os) (act n ρ ds) w) :=
  o_val rfl (by intro c e; cases e) (fun w _ _ => run_bin (by rw [hx, hy]; rfl) (by rw [hx, hy]; rfl)) h

/-- What two values of a type are held against each other by '==' comes to. -/
class EqTy (P : Program) (t : TypeId) (u v : Value) (r : outParam Bool) : Prop where
  run : ∀ w, (binOp .eql t u v).run P w = .ok (.bool r) w
  nrun : ∀ w, (binOp .neq t u v).run P w = .ok (.bool !r) w
  guard : ∀ (op : BinOp) (x y : Operand) w, (eqGuard op t x y u v).run P w = .ok () w
theorem o_eqty {u v : Value} {r : Bool} (hx : ev n ρ x = u) (hy : ev n ρ y = v) (e : EqTy P xt u v r) (h : G w0 A L (fun w => runL ro P all Q os (act n (updo ρ d (.bool r)) ds) w)) :
    G w0 A L (fun w => runL ro P all Q ({ dst := d, op := .binOp .eql xt x y yt, type := ty, pos := pos, after := af, guard := none } :: os) (act n ρ ds) w) :=
  o_val rfl (by intro c e; cases e) (fun w _ _ => run_bin (by rw [hx, hy]; exact e.guard _ _ _ w) (by rw [hx, hy]; exact e.run w)) h
theorem o_neqty {u v : Value} {r : Bool} (hx : ev n ρ x = u) (hy : ev n ρ y = v) (e : EqTy P xt u v r) (h : G w0 A L (fun w => runL ro P all Q os (act n (updo ρ d (.bool !r)) ds) w)) :
    G w0 A L (fun w => runL ro P all Q ({ dst := d, op := .binOp .neq xt x y yt, type := ty, pos := pos, after := af, guard := none } :: os) (act n ρ ds) w) :=
  o_val rfl (by intro c e; cases e) (fun w _ _ => run_bin (by rw [hx, hy]; exact e.guard _ _ _ w) (by rw [hx, hy]; exact e.nrun w)) h
theorem o_not {t : Bool} (hx : ev n ρ x = .bool t) (h : G w0 A L (fun w => runL ro P all Q os (act n (updo ρ d (.bool !t)) ds) w)) :
    G w0 A L (fun w => runL ro P all Q ({ dst := d, op := .unOp .not xt x, type := ty, pos := pos, after := af, guard := none } :: os) (act n ρ ds) w) :=
  o_val rfl (by intro c e; cases e) (fun w _ _ => by simp only [execOp]; exact run_v (by rw [hx]; rfl)) h
/-- A pointer against nil. -/
theorem eq_ptr_nil {u : TypeId} {q : Option Addr} (h : P.underlying xt = some (.pointer u)) (w : World) : (Op.equal xt (.pointer q) (.pointer none)).run P w = .ok q.isNone w := by
  unfold Op.equal Op.maxDepth Op.equalIn
  cases q <;> simp [run_underlying h]
class PtrTy (P : Program) (t : TypeId) : Prop where
  ty : ∃ u, P.underlying t = some (.pointer u)
theorem o_peql {q : Option Addr} (hx : ev n ρ x = .pointer q) [pt : PtrTy P xt] (h : G w0 A L (fun w => runL ro P all Q os (act n (updo ρ d (.bool q.isNone)) ds) w)) :
    G w0 A L (fun w => runL ro P all Q ({ dst := d, op := .binOp .eql xt x (.const (.pointer none)) yt, type := ty, pos := pos, after := af, guard := none } :: os) (act n ρ ds) w) :=
  o_val rfl (by intro c e; cases e) (fun w _ _ => run_bin (by rw [hx]; rfl) (by
    obtain ⟨u, hu⟩ := pt.ty
    rw [hx]
    show (binOp .eql xt (.pointer q) (.pointer none)).run P w = _
    simp only [binOp]
    simp [eq_ptr_nil hu])) h
theorem o_pneq {q : Option Addr} (hx : ev n ρ x = .pointer q) [pt : PtrTy P xt] (h : G w0 A L (fun w => runL ro P all Q os (act n (updo ρ d (.bool !q.isNone)) ds) w)) :
    G w0 A L (fun w => runL ro P all Q ({ dst := d, op := .binOp .neq xt x (.const (.pointer none)) yt, type := ty, pos := pos, after := af, guard := none } :: os) (act n ρ ds) w) :=
  o_val rfl (by intro c e; cases e) (fun w _ _ => run_bin (by rw [hx]; rfl) (by
    obtain ⟨u, hu⟩ := pt.ty
    rw [hx]
    show (binOp .neq xt (.pointer q) (.pointer none)).run P w = _
    simp only [binOp]
    simp [eq_ptr_nil hu])) h

/-! #### Addresses -/
theorem add_off (b k j : Nat) : (⟨b, k, none⟩ : Addr).add j = ⟨b, k + j, none⟩ := by
  unfold Addr.add
  split
  · rename_i h; subst h; rfl
  · rfl
theorem o_nil {a : Addr} (hx : ev n ρ x = .pointer (some a)) (h : G w0 A L (fun w => runL ro P all Q os (act n (updo ρ d (.pointer (some a))) ds) w)) :
    G w0 A L (fun w => runL ro P all Q ({ dst := d, op := .nilCheck x, type := ty, pos := pos, after := af, guard := none } :: os) (act n ρ ds) w) :=
  o_val rfl (by intro c e; cases e) (fun w _ _ => by simp only [execOp, hx]; rfl) h
class FieldOff (P : Program) (t : TypeId) (f : Nat) (off : outParam Nat) : Prop where
  run : ∀ b k w, (Instr.fieldAt t (.pointer (some ⟨b, k, none⟩)) f).run P w = .ok (.pointer (some ⟨b, k + off, none⟩)) w
theorem o_field {t : TypeId} {f off b k : Nat} (hx : ev n ρ x = .pointer (some ⟨b, k, none⟩)) [fo : FieldOff P t f off] (h : G w0 A L (fun w => runL ro P all Q os (act n (updo ρ d (.pointer (some ⟨b, k + off, none⟩))) ds) w)) :
    G w0 A L (fun w => runL ro P all Q ({ dst := d, op := .fieldAddr t x f, type := ty, pos := pos, after := af, guard := none } :: os) (act n ρ ds) w) :=
  o_val rfl (by intro c e; cases e) (fun w _ _ => by simp only [execOp]; exact run_v (by rw [hx]; exact fo.run b k w)) h
/-- A slice type, its elements' type and cells. -/
class SlTy (P : Program) (t : TypeId) (e : outParam TypeId) (sz : outParam Nat) : Prop where
  ty : P.underlying t = some (.slice e)
  size : ∀ w, (sizeOf e).run P w = .ok sz w
theorem o_len {t e : TypeId} {sz : Nat} {a : Option Addr} {len cap : Nat} {tys : Array TypeId} (hx : ev n ρ x = .slice a len cap) (ht : tys = #[t]) [st : SlTy P t e sz]
    (h : G w0 A L (fun w => runL ro P all Q os (act n (updo ρ d (.int .i64 (len : Int))) ds) w)) :
    G w0 A L (fun w => runL ro P all Q ({ dst := d, op := .call { callee := .builtin .len, args := #[x], argTypes := tys }, type := ty, pos := pos, after := af, guard := none } :: os) (act n ρ ds) w) :=
  o_val rfl (by intro c e; cases e) (fun w _ _ => by
    subst ht
    simp only [execOp, resolve, List.map_toArray, List.map_cons, List.map_nil, hx]
    simp [invoke, builtin, Builtin.len_, run_underlying st.ty, goInt]) h
theorem o_extract {vs : Array Value} {i : Nat} {v : Value} (hx : ev n ρ x = .tuple vs) (hv : vs[i]? = some v) (h : G w0 A L (fun w => runL ro P all Q os (act n (updo ρ d v) ds) w)) :
    G w0 A L (fun w => runL ro P all Q ({ dst := d, op := .extract x i, type := ty, pos := pos, after := af, guard := none } :: os) (act n ρ ds) w) :=
  o_val rfl (by intro c e; cases e) (fun w _ _ => by simp only [execOp]; exact run_v (by rw [hx]; simp [Instr.extract, hv])) h
theorem o_func {fn : Fn} {first cap : List Operand} (h : G w0 A L (fun w => runL ro P all Q os (act n (updo ρ d (.func fn (first.map (ev n ρ)).toArray (cap.map (ev n ρ)).toArray)) ds) w)) :
    G w0 A L (fun w => runL ro P all Q ({ dst := d, op := .makeFunc fn first.toArray cap.toArray, type := ty, pos := pos, after := af, guard := none } :: os) (act n ρ ds) w) :=
  o_val rfl (by intro c e; cases e) (fun w _ _ => by simp only [execOp, List.map_toArray]; exact run_v rfl) h
theorem o_iface {t : TypeId} {u : Value} (hx : ev n ρ x = u) (hr : ∀ w, (Instr.makeInterface t u).run P w = .ok (.iface t u) w) (h : G w0 A L (fun w => runL ro P all Q os (act n (updo ρ d (.iface t u)) ds) w)) :
    G w0 A L (fun w => runL ro P all Q ({ dst := d, op := .makeInterface t x, type := ty, pos := pos, after := af, guard := none } :: os) (act n ρ ds) w) :=
  o_val rfl (by intro c e; cases e) (fun w _ _ => by simp only [execOp]; exact run_v (by rw [hx]; exact hr w)) h
theorem o_build {t : TypeId} {parts : Array (Nat × Operand)} (v : Value) (hv : ∀ w, (Instr.build t (parts.map fun (i, x) => (i, ev n ρ x))).run P w = .ok v w) (h : G w0 A L (fun w => runL ro P all Q os (act n (updo ρ d v) ds) w)) :
    G w0 A L (fun w => runL ro P all Q ({ dst := d, op := .build t parts, type := ty, pos := pos, after := af, guard := none } :: os) (act n ρ ds) w) :=
  o_val rfl (by intro c e; cases e) (fun w _ _ => by simp only [execOp]; exact run_v (hv w)) h
/-- Any other operation that yields a value whatever the world. -/
theorem o_any {o : Oper} (v : Value) (hg : o.guard = none) (hd : ∀ c, o.op ≠ .defer c) (hv : ∀ w, (execOp (ev n ρ) o).run P w = .ok (.value v) w) (h : G w0 A L (fun w => runL ro P all Q os (act n (updo ρ o.dst v) ds) w)) :
    G w0 A L (fun w => runL ro P all Q (o :: os) (act n ρ ds) w) := o_val hg hd (fun w _ _ => hv w) h

/-! #### Memory -/
/-- A type of one cell that is no aggregate; an aggregate of so many cells. -/
class TyS (P : Program) (t : TypeId) : Prop where
  agg : ∀ w, (isAgg t).run P w = .ok false w
  size : ∀ w, (sizeOf t).run P w = .ok 1 w
class TyA (P : Program) (t : TypeId) (sz : outParam Nat) : Prop where
  agg : ∀ w, (isAgg t).run P w = .ok true w
  size : ∀ w, (sizeOf t).run P w = .ok sz w
class TySz (P : Program) (t : TypeId) (sz : outParam Nat) : Prop where
  size : ∀ w, (sizeOf t).run P w = .ok sz w
instance {P : Program} {t : TypeId} [h : TyS P t] : TySz P t 1 := ⟨h.size⟩
instance {P : Program} {t : TypeId} {sz : Nat} [h : TyA P t sz] : TySz P t sz := ⟨h.size⟩
class TyZ (P : Program) (t : TypeId) (z : outParam Value) : Prop where
  run : ∀ w, (zeroValue t).run P w = .ok z w

/-- The block of cells cs, of element type t. -/
abbrev cellsB (b : Nat) (cs : Array Value) (t : TypeId) : SProp := blk b (.cells cs t (0, 0))
/-- The same, for ever. -/
abbrev pcellsB (b : Nat) (cs : Array Value) (t : TypeId) : SProp := pblk b (.cells cs t (0, 0))

theorem o_load1 {t e : TypeId} {b k : Nat} {cs : Array Value} {v : Value} {fz : Nat × Nat} (hx : ev n ρ x = .pointer (some ⟨b, k, none⟩)) [ts : TyS P t] [hb : HasBlk L b (.cells cs e fz)] (hv : cs[k]? = some v)
    (h : G w0 A L (fun w => runL ro P all Q os (act n (updo ρ d v) ds) w)) :
    G w0 A L (fun w => runL ro P all Q ({ dst := d, op := .load t x, type := ty, pos := pos, after := af, guard := none } :: os) (act n ρ ds) w) :=
  o_val rfl (by intro c e; cases e) (fun w _ hh => by
    simp only [execOp]
    refine run_v ?_
    have hc : w.cell? ⟨b, k, none⟩ = some v := by
      have hbw : w.heap[b]? = some (.cells cs e fz) := hb.sees.right w hh
      simp [World.cell?, hbw, hv]
    rw [hx]
    simp [Instr.loadAt, Instr.sureAddr, loadVar, ts.agg, run_load, hc]) h
theorem run_loadN {t e : TypeId} {b k sz : Nat} {cs : Array Value} {w : World} {fz : Nat × Nat} [ts : TyA P t sz] (hb : w.heap[b]? = some (.cells cs e fz)) (hk : k + sz ≤ cs.size) :
    (loadVar t ⟨b, k, none⟩).run P w = .ok (.agg (cs.extract k (k + sz))) w := by
  have hl : (loadCells ⟨b, k, none⟩ sz).run P w = .ok (cs.extract k (k + sz)) w := by
    have := run_loadCells_list (P := P) w ⟨b, k, none⟩ (cs.extract k (k + sz)).toList (fun j v hv => by
      rw [add_off]
      have hv' : (cs.extract k (k + sz))[j]? = some v := by rw [← Array.getElem?_toList]; exact hv
      rw [Array.getElem?_extract] at hv'
      split at hv'
      · simp [World.cell?, hb, hv']
      · cases hv')
    have hlen : (cs.extract k (k + sz)).toList.length = sz := by simp; omega
    rw [hlen] at this
    exact this
  simp [loadVar, ts.agg, ts.size, hl]
theorem o_loadN {t e : TypeId} {b k sz : Nat} {cs : Array Value} {v : Value} {fz : Nat × Nat} (hx : ev n ρ x = .pointer (some ⟨b, k, none⟩)) [ts : TyA P t sz] [hb : HasBlk L b (.cells cs e fz)] (hk : Nat.ble (k + sz) cs.size = true) (hv : .agg (cs.extract k (k + sz)) = v)
    (h : G w0 A L (fun w => runL ro P all Q os (act n (updo ρ d v) ds) w)) :
    G w0 A L (fun w => runL ro P all Q ({ dst := d, op := .load t x, type := ty, pos := pos, after := af, guard := none } :: os) (act n ρ ds) w) :=
  o_val rfl (by intro c e; cases e) (fun w _ hh => by
    simp only [execOp]
    refine run_v ?_
    have hbw : w.heap[b]? = some (.cells cs e fz) := hb.sees.right w hh
    rw [hx, ← hv]
    simp [Instr.loadAt, Instr.sureAddr, run_loadN hbw (Nat.le_of_ble_eq_true hk)]) h
/-- A load of what a fact on the heap tells. -/
theorem o_loadv {t : TypeId} {a : Addr} {v : Value} (hx : ev n ρ x = .pointer (some a)) (hv : ∀ w, holds (star A (sl L)) w → (loadVar t a).run P w = .ok v w)
    (h : G w0 A L (fun w => runL ro P all Q os (act n (updo ρ d v) ds) w)) :
    G w0 A L (fun w => runL ro P all Q ({ dst := d, op := .load t x, type := ty, pos := pos, after := af, guard := none } :: os) (act n ρ ds) w) :=
  o_val rfl (by intro c e; cases e) (fun w _ hh => by
    simp only [execOp]
    refine run_v ?_
    rw [hx]
    simp [Instr.loadAt, Instr.sureAddr, hv w hh]) h

/-- What a block's cells are behind a store. -/
def sto (cs : Array Value) (k : Nat) (vs : Array Value) : Array Value := (cs.toList.take k ++ vs.toList ++ cs.toList.drop (k + vs.toList.length)).toArray
theorem std_setRow (w : World) (b : Nat) (cs : Array Value) : Std w (w.setRow b cs) := ⟨rfl, rfl, rfl, by simp [World.setRow]⟩
theorem hp_setRow_ne (w : World) {b k : Nat} (cs : Array Value) (h : k ≠ b) : hp (w.setRow b cs) k = hp w k := by
  simp [hp, World.setRow, Array.getElem?_modify, Ne.symm h]
theorem o_store {t e : TypeId} {b k sz : Nat} {cs : Array Value} {v : Value} {f : Obj → List SProp} (hx : ev n ρ x = .pointer (some ⟨b, k, none⟩)) (hy : ev n ρ y = v) [rb : RepBlk L b (.cells cs e (0, 0)) f]
    [ts : TySz P t sz] (hsz : Nat.beq v.cells.size sz = true) (h1 : v.cells.toList.all Value.oneCell' = true) (hk : Nat.ble (k + v.cells.size) cs.size = true)
    (h : G w0 A (f (.cells (sto cs k v.cells) e (0, 0))) (fun w => runL ro P all Q os (act n (updo ρ d undef) ds) w)) :
    G w0 A L (fun w => runL ro P all Q ({ dst := d, op := .store t x y, type := ty, pos := pos, after := af, guard := none } :: os) (act n ρ ds) w) := by
  refine o_run rfl fun w hw hh => ?_
  refine ⟨fun _ _ => trivial, ?_⟩
  rw [Oper.semAt_eq _ _ _ (by intro c e; cases e), act_eval]
  have hbw : w.heap[b]? = some (.cells cs e (0, 0)) := rb.sees.right w hh
  have hst := run_storeCells_at (P := P) b k e v.cells.toList 0 cs w hbw (by simpa using Nat.le_of_ble_eq_true hk) (List.all_eq_true.1 h1)
  have hrun : (execOp (ev n ρ) { dst := d, op := .store t x y, type := ty, pos := pos, after := af, guard := none }).run P w = .ok .skip (w.setRow b (sto cs k v.cells)) := by
    simp only [execOp, hx, hy]
    have hsz' : v.cells.size = sz := Nat.eq_of_beq_eq_true hsz
    simp [Instr.storeAt, Instr.sureAddr, storeVar, ts.size, hsz', hst, sto]
  rw [hrun]
  show runL ro P all Q os ((act n ρ ds).put d undef) _
  rw [act_put]
  refine h _ (hw.trans (std_setRow _ _ _)) ?_
  exact hh.rep (setRow_heap w b cs _ e _ hbw) (fun j hj => hp_setRow_ne w _ hj)
theorem o_alloc {t : TypeId} {z : Value} [tz : TyZ P t z] (h : ∀ b, G w0 A (cellsB b z.cells t :: L) (fun w => runL ro P all Q os (act n (updo ρ d (.pointer (some ⟨b, 0, none⟩))) ds) w)) :
    G w0 A L (fun w => runL ro P all Q ({ dst := d, op := .alloc t, type := ty, pos := pos, after := af, guard := none } :: os) (act n ρ ds) w) := by
  refine o_run rfl fun w hw hh => ?_
  refine ⟨fun _ _ => trivial, ?_⟩
  rw [Oper.semAt_eq _ _ _ (by intro c e; cases e), act_eval]
  have hrun : (execOp (ev n ρ) { dst := d, op := .alloc t, type := ty, pos := pos, after := af, guard := none }).run P w = .ok (.value (.pointer (some ⟨w.heap.size, 0, none⟩))) (w.alloc (.cells z.cells t)) := by
    simp only [execOp]
    simp [Instr.alloc, tz.run, newVar, newRow]
  rw [hrun]
  show runL ro P all Q os ((act n ρ ds).put d _) _
  rw [act_put]
  exact h w.heap.size _ (hw.trans (.alloc _ _)) ((hh.alloc _).ent (Ent.swap _ _ _))
theorem o_box {t : TypeId} {v : Value} (hx : ev n ρ x = v) (h : ∀ b, G w0 A (cellsB b v.cells t :: L) (fun w => runL ro P all Q os (act n (updo ρ d (.pointer (some ⟨b, 0, none⟩))) ds) w)) :
    G w0 A L (fun w => runL ro P all Q ({ dst := d, op := .box t x, type := ty, pos := pos, after := af, guard := none } :: os) (act n ρ ds) w) := by
  refine o_run rfl fun w hw hh => ?_
  refine ⟨fun _ _ => trivial, ?_⟩
  rw [Oper.semAt_eq _ _ _ (by intro c e; cases e), act_eval]
  have hrun : (execOp (ev n ρ) { dst := d, op := .box t x, type := ty, pos := pos, after := af, guard := none }).run P w = .ok (.value (.pointer (some ⟨w.heap.size, 0, none⟩))) (w.alloc (.cells v.cells t)) := by
    simp only [execOp, hx]
    simp [Instr.box, newVar, newRow]
  rw [hrun]
  show runL ro P all Q os ((act n ρ ds).put d _) _
  rw [act_put]
  exact h w.heap.size _ (hw.trans (.alloc _ _)) ((hh.alloc _).ent (Ent.swap _ _ _))
theorem o_slice_lit {t e : TypeId} {len : Nat} {parts : Array (Nat × Operand)} (cs : Array Value) (hr : ∀ w, (Instr.buildSlice t len (parts.map fun (i, x) => (i, ev n ρ x))).run P w = .ok (.slice (some ⟨w.heap.size, 0, none⟩) len len) (w.alloc (.cells cs e)))
    (h : ∀ b, G w0 A (cellsB b cs e :: L) (fun w => runL ro P all Q os (act n (updo ρ d (.slice (some ⟨b, 0, none⟩) len len)) ds) w)) :
    G w0 A L (fun w => runL ro P all Q ({ dst := d, op := .buildSlice t len parts, type := ty, pos := pos, after := af, guard := none } :: os) (act n ρ ds) w) := by
  refine o_run rfl fun w hw hh => ?_
  refine ⟨fun _ _ => trivial, ?_⟩
  rw [Oper.semAt_eq _ _ _ (by intro c e; cases e), act_eval]
  have hrun : (execOp (ev n ρ) { dst := d, op := .buildSlice t len parts, type := ty, pos := pos, after := af, guard := none }).run P w = .ok (.value (.slice (some ⟨w.heap.size, 0, none⟩) len len)) (w.alloc (.cells cs e)) := by
    simp only [execOp]
    simp only [Sem.run_bind, hr w]
    rfl
  rw [hrun]
  show runL ro P all Q os ((act n ρ ds).put d _) _
  rw [act_put]
  exact h w.heap.size _ (hw.trans (.alloc _ _)) ((hh.alloc _).ent (Ent.swap _ _ _))

/-! ### Calls -/
/-- The contract of a call: what it takes, and how it may end. -/
def Ctr (P : Program) (f : FuncId) (args : List Value) (L : List SProp) (R : Value → List SProp → Prop) : Prop :=
  ∀ (w : World) (F : SProp), holds (star F (sl L)) w → Calls P f args.toArray w fun e w' => ∃ v L', e = .returned v ∧ R v L' ∧ holds (star F (sl L')) w' ∧ Std w w'
theorem Ctr.mono {f : FuncId} {args : List Value} {R R' : Value → List SProp → Prop} (h : Ctr P f args L R) (k : ∀ v M, R v M → R' v M) : Ctr P f args L R' :=
  fun w F hh => (h w F hh).mono fun _ _ ⟨v, M, e, r, x, s⟩ => ⟨v, M, e, k v M r, x, s⟩
theorem Ctr.pre {f : FuncId} {args : List Value} {R : Value → List SProp → Prop} {K : List SProp} (h : Ctr P f args K R) (e : Ent (sl L) (sl K)) : Ctr P f args L R :=
  fun w F hh => h w F (hh.ent ((Ent.refl F).star e))

theorem run_call {f : FuncId} {args : List Operand} {tys : Array TypeId} {vs cap : List Value} {cal : Operand} {w : World} (hf : ev n ρ cal = .func (.func f) #[] cap.toArray) (ha : args.map (ev n ρ) = vs) (en : Enters P f) :
    (execOp (ev n ρ) { dst := d, op := .call { callee := .value cal, args := args.toArray, argTypes := tys }, type := ty, pos := pos, after := af, guard := none }).run P w = .ok (.enter f (vs ++ cap).toArray) w := by
  simp only [execOp, resolve, Deferred.ofValue, hf, List.map_toArray, ha]
  simp [invoke, en _ _]
theorem o_call_gen {f : FuncId} {vs : List Value} {o : Oper} {K M : List SProp} {R : Value → List SProp → Prop} (hg : o.guard = none) (hd : ∀ c, o.op ≠ .defer c)
    (hrun : ∀ w, (execOp (ev n ρ) o).run P w = .ok (.enter f vs.toArray) w) (sp : Ctr P f vs K R) [t : Take L K M]
    (h : ∀ v L', R v L' → G w0 A (L' ++ M) (fun w => runL ro P all Q os (act n (updo ρ o.dst v) ds) w)) :
    G w0 A L (fun w => runL ro P all Q (o :: os) (act n ρ ds) w) := by
  refine o_run hg fun w hw hh => ?_
  refine ⟨fun _ _ => trivial, ?_⟩
  rw [Oper.semAt_eq _ _ _ hd, act_eval, hrun w]
  refine ⟨fun h => (by cases h), ?_⟩
  refine callsWF.2 ((sp w (star A (sl M)) ?_).mono ?_)
  · refine hh.ent ?_
    refine ((Ent.refl A).star ((sl_perm t.perm).trans (sl_append_to K M))).trans ?_
    exact ((Ent.refl A).star (Ent.comm _ _)).trans (Ent.assoc' _ _ _)
  · rintro e w' ⟨v, L', rfl, r, x, s⟩
    show runL ro P all Q os ((act n ρ ds).put o.dst v) w'
    rw [act_put]
    refine h v L' r w' (hw.trans s) (x.ent ?_)
    exact (Ent.assoc _ _ _).trans ((Ent.refl A).star ((Ent.comm _ _).trans (sl_append_of _ _)))
/-- A call of function f enters it. -/
class En (P : Program) (f : FuncId) : Prop where
  en : Enters P f
theorem o_callc {f : FuncId} {args : List Operand} {tys : Array TypeId} {vs cap ws : List Value} {cal : Operand} {K M : List SProp} {R : Value → List SProp → Prop} [en : En P f] (sp : Ctr P f ws K R)
    (hf : ev n ρ cal = .func (.func f) #[] cap.toArray) (ha : args.map (ev n ρ) = vs) (hw : vs ++ cap = ws) [t : Take L K M]
    (h : ∀ v L', R v L' → G w0 A (L' ++ M) (fun w => runL ro P all Q os (act n (updo ρ d v) ds) w)) :
    G w0 A L (fun w => runL ro P all Q ({ dst := d, op := .call { callee := .value cal, args := args.toArray, argTypes := tys }, type := ty, pos := pos, after := af, guard := none } :: os) (act n ρ ds) w) :=
  o_call_gen rfl (by intro c e; cases e) (fun _ => by rw [← hw]; exact run_call hf ha en.en) sp h
theorem o_call {f : FuncId} {args : List Operand} {tys : Array TypeId} {vs : List Value} {cal : Operand} {K M : List SProp} {R : Value → List SProp → Prop} [en : En P f] (sp : Ctr P f vs K R)
    (hf : ev n ρ cal = .func (.func f) #[] #[]) (ha : args.map (ev n ρ) = vs) [t : Take L K M]
    (h : ∀ v L', R v L' → G w0 A (L' ++ M) (fun w => runL ro P all Q os (act n (updo ρ d v) ds) w)) :
    G w0 A L (fun w => runL ro P all Q ({ dst := d, op := .call { callee := .value cal, args := args.toArray, argTypes := tys }, type := ty, pos := pos, after := af, guard := none } :: os) (act n ρ ds) w) :=
  o_callc (cap := []) sp hf ha (by simp) h
/-- A call by a contract that any list will do for that shows what it reads: it gets all of it. -/
theorem o_callR {f : FuncId} {args : List Operand} {tys : Array TypeId} {vs : List Value} {cal : Operand} {R : Value → List SProp → Prop} [en : En P f] (sp : Ctr P f vs L R)
    (hf : ev n ρ cal = .func (.func f) #[] #[]) (ha : args.map (ev n ρ) = vs)
    (h : ∀ v L', R v L' → G w0 A L' (fun w => runL ro P all Q os (act n (updo ρ d v) ds) w)) :
    G w0 A L (fun w => runL ro P all Q ({ dst := d, op := .call { callee := .value cal, args := args.toArray, argTypes := tys }, type := ty, pos := pos, after := af, guard := none } :: os) (act n ρ ds) w) := by
  refine o_call (M := []) sp hf ha (t := ⟨by simp⟩) fun v L' r => ?_
  rw [List.append_nil]
  exact h v L' r
/-- A method called on an interface value whose make is known. -/
theorem o_invoke {f : FuncId} {args : List Operand} {tys : Array TypeId} {vs : List Value} {x : Operand} {name : String} {t : TypeId} {u : Value} {K M : List SProp} {R : Value → List SProp → Prop} (sp : Ctr P f (u :: vs) K R)
    (hx : ev n ρ x = .iface t u) (ha : args.map (ev n ρ) = vs) (hm : ∀ w, (callMethod (.iface t u) name vs.toArray).run P w = .ok (.enter f (u :: vs).toArray) w) [tk : Take L K M]
    (h : ∀ v L', R v L' → G w0 A (L' ++ M) (fun w => runL ro P all Q os (act n (updo ρ d v) ds) w)) :
    G w0 A L (fun w => runL ro P all Q ({ dst := d, op := .call { callee := .invoke x name, args := args.toArray, argTypes := tys }, type := ty, pos := pos, after := af, guard := none } :: os) (act n ρ ds) w) :=
  o_call_gen rfl (by intro c e; cases e) (fun w => by
    simp only [execOp, resolve, hx, List.map_toArray, ha]
    simp [invoke, hm]) sp h
end
end Go.Sl
/- A function's contract from its body; a range over a function. Plain library, no program in sight. -/
namespace Go.Sl
open Go Go.Proofs

/-! ### A function's contract, from its body -/
/-- The blocks for the rounds' deferred calls (none is ever laid there). -/
def dfr (ds : List Nat) : SProp := sl (ds.map fun D => blk D (.deferred (some [])))
/-- What is asked where a function returns. -/
def Ret (w0 : World) (P : Program) (fn : Func) (F : SProp) (R : Value → List SProp → Prop) : Exit → Act → World → Prop :=
  bodyPostM (WF none) 0 P fn (fun e w' => ∃ v L', e = .returned v ∧ R v L' ∧ holds (star F (sl L')) w' ∧ Std w0 w')
def ent : List Value → Nat → Value
  | [], _ => undef
  | v :: _, 0 => v
  | _ :: l, i + 1 => ent l i
theorem ent_getD : ∀ (l : List Value) (i : Nat), l.toArray.getD i undef = ent l i
  | [], i => by simp [ent]
  | v :: l, 0 => by simp [ent]
  | v :: l, i + 1 => by simpa [ent] using ent_getD l i

section
variable {w0 : World} {P : Program} {f : FuncId} {fn : Func} {c : Code} {n : Nat} {ρ : Nat → Value} {ds : List Nat} {L : List SProp} {F : SProp} {R : Value → List SProp → Prop}
theorem spec_of {args : List Value} (hf : P.funcs[f]? = some fn) (hb : fn.body = some c) (hn : fn.ntmps = n) (ha : Nat.ble args.length n = true)
    (h : ∀ w0 F, G w0 (star (dfr []) F) L (fun w => c.wpIn (WF none) 0 P (Ret w0 P fn F R) (act n (ent args) []) w)) : Ctr P f args L R := by
  intro w F hh
  refine (callsWF (ro := none) (n := 0)).1 (callsIn_of_wp_marks hf hb trivial ?_)
  rw [hn]
  have := h w F w (.refl w) (hh.ent ((Ent.emp_left F).star (Ent.refl _)))
  rw [entry_act n args.toArray (by simpa using Nat.le_of_ble_eq_true ha)]
  have e : (fun i => args.toArray.getD i undef) = ent args := funext fun i => ent_getD args i
  rw [e]
  exact this
theorem leaves (tmps : Array Value) {K : Ending → World → Prop} : ∀ (ds : List Nat) (w : World), Std w0 w → holds (star (star (dfr ds) F) (sl L)) w →
    (∀ w', Std w0 w' → holds (star F (sl L)) w' → ∃ v, (results fn tmps).run P w' = .ok v w' ∧ K (.returned v) w') → LeavesInM (WF none) 0 P fn tmps K (ds.map markOf) .returning w
  | [], w, hw, hh, h => h w hw (hh.ent ((Ent.right (dfr []) F).star (Ent.refl _)))
  | D :: ds, w, hw, hh, h => by
    have h1 : holds (star (blk D (.deferred (some []))) (star (star (dfr ds) F) (sl L))) w :=
      hh.ent (((Ent.assoc (blk D (.deferred (some []))) (dfr ds) F).star (Ent.refl _)).trans (Ent.assoc _ _ _))
    have hb : w.heap[D]? = some (.deferred (some [])) := (Sees.left (sees_blk D _)) w h1
    refine ⟨by simp, .inl ⟨D, _, rfl, run_takeDeferred hb, ?_⟩⟩
    exact leaves tmps ds _ (hw.trans (.putObj _ _ _)) ((h1.putObj (.deferred none)).ent (Ent.right _ _)) h
theorem g_return (h : ∀ w, Std w0 w → holds (star F (sl L)) w → ∃ v L', (results fn (act n ρ ds).tmps).run P w = .ok v w ∧ R v L' ∧ Ent (sl L) (sl L')) :
    G w0 (star (dfr ds) F) L (fun w => Ret w0 P fn F R .ret (act n ρ ds) w) := fun w hw hh =>
  leaves _ ds w hw hh fun w' hw' hh' => by
    obtain ⟨v, L', hr, hR, he⟩ := h w' hw' hh'
    exact ⟨v, hr, v, L', rfl, hR, hh'.ent ((Ent.refl F).star he), hw'⟩
theorem g_return_n (h : G w0 (star (dfr ds) F) L (fun w => Ret w0 P fn F R .ret (act n ρ ds) w)) : G w0 (star (dfr ds) F) L (fun w => Ret w0 P fn F R .normal (act n ρ ds) w) := h

/-- What a result reads as. -/
def ResV (P : Program) (n : Nat) (ρ : Nat → Value) (w : World) : ResultVar → Value → Prop
  | .tmp t, v => ev n ρ (.tmp t) = v
  | .cell a t, v => ∃ ad, ev n ρ (.tmp a) = .pointer (some ad) ∧ (loadVar t ad).run P w = .ok v w
theorem tmp_getD (n : Nat) (ρ : Nat → Value) (ds : List Nat) (t : Nat) : (act n ρ ds).tmps.getD t undef = ev n ρ (.tmp t) := congrFun (act_eval n ρ ds) (.tmp t)
def resF (tmps : Array Value) (r : ResultVar) : Sem Value := match r with
  | .tmp t => pure (tmps.getD t undef)
  | .cell a t => do loadVar t (← asAddr (tmps.getD a undef))
theorem results_eq (fn : Func) (tmps : Array Value) : results fn tmps = (do let vs ← fn.results.mapM (resF tmps); pure (if h : vs.size = 1 then vs[0] else .tuple vs)) := rfl
theorem run_res {w : World} {r : ResultVar} {v : Value} (h : ResV P n ρ w r v) : (resF (act n ρ ds).tmps r).run P w = .ok v w := by
  cases r with
  | tmp t => simp only [ResV] at h; simp only [resF, tmp_getD, h]; rfl
  | cell a t =>
    obtain ⟨ad, h1, h2⟩ := h
    simp only [resF, tmp_getD, h1]
    simp [asAddr, h2]
theorem results0 {w : World} (h : fn.results = #[]) : (results fn (act n ρ ds).tmps).run P w = .ok (.tuple #[]) w := results_none h _ _ _
theorem results1 {w : World} {r : ResultVar} {v : Value} (h : fn.results = #[r]) (hv : ResV P n ρ w r v) : (results fn (act n ρ ds).tmps).run P w = .ok v w := by
  have e1 := run_res (ds := ds) hv
  rw [results_eq, h]
  simp [e1]
theorem results2 {w : World} {r1 r2 : ResultVar} {v1 v2 : Value} (h : fn.results = #[r1, r2]) (h1 : ResV P n ρ w r1 v1) (h2 : ResV P n ρ w r2 v2) : (results fn (act n ρ ds).tmps).run P w = .ok (.tuple #[v1, v2]) w := by
  have e1 := run_res (ds := ds) h1
  have e2 := run_res (ds := ds) h2
  rw [results_eq, h]
  simp [e1, e2]
/-- What a result is known to be off a list. -/
class ResK (P : Program) (n : Nat) (ρ : Nat → Value) (L : List SProp) (r : ResultVar) (v : outParam Value) : Prop where
  res : ∀ w, holds (sl L) w → ResV P n ρ w r v
theorem resT {t : Tmp} {v : Value} (h : ev n ρ (.tmp t) = v) : ResK P n ρ L (.tmp t) v := ⟨fun _ _ => h⟩
theorem resC1 {a : Tmp} {t e : TypeId} {b k : Nat} {cs : Array Value} {v : Value} {fz : Nat × Nat} (h : ev n ρ (.tmp a) = .pointer (some ⟨b, k, none⟩)) [ts : TyS P t] [hb : HasBlk L b (.cells cs e fz)] (hv : cs[k]? = some v) : ResK P n ρ L (.cell a t) v :=
  ⟨fun w hh => ⟨_, h, by
    have hc : w.cell? ⟨b, k, none⟩ = some v := by
      have hbw : w.heap[b]? = some (.cells cs e fz) := hb.sees w hh
      simp [World.cell?, hbw, hv]
    simp [loadVar, ts.agg, run_load, hc]⟩⟩
theorem resCN {a : Tmp} {t e : TypeId} {b k sz : Nat} {cs : Array Value} {v : Value} {fz : Nat × Nat} (h : ev n ρ (.tmp a) = .pointer (some ⟨b, k, none⟩)) [ts : TyA P t sz] [hb : HasBlk L b (.cells cs e fz)] (hk : Nat.ble (k + sz) cs.size = true) (hv : .agg (cs.extract k (k + sz)) = v) : ResK P n ρ L (.cell a t) v :=
  ⟨fun w hh => ⟨_, h, by rw [← hv]; exact run_loadN (hb.sees w hh) (Nat.le_of_ble_eq_true hk)⟩⟩

section
variable {K M : List SProp} [tk : Take L K M]
include tk
theorem take_ent : Ent (sl L) (sl K) := (sl_perm tk.perm).trans ((sl_append_to K M).trans (Ent.left _ _))
theorem ret0 (hr : fn.results = #[]) (hR : R (.tuple #[]) K) : G w0 (star (dfr ds) F) L (fun w => Ret w0 P fn F R .ret (act n ρ ds) w) :=
  g_return fun _ _ _ => ⟨_, K, results0 hr, hR, take_ent⟩
theorem ret1 {r : ResultVar} {v : Value} (hr : fn.results = #[r]) (h1 : ResK P n ρ L r v) (hR : R v K) : G w0 (star (dfr ds) F) L (fun w => Ret w0 P fn F R .ret (act n ρ ds) w) :=
  g_return fun w _ hh => ⟨_, K, results1 hr (h1.res w (hh.ent (Ent.right _ _))), hR, take_ent⟩
theorem ret2 {r1 r2 : ResultVar} {v1 v2 : Value} (hr : fn.results = #[r1, r2]) (h1 : ResK P n ρ L r1 v1) (h2 : ResK P n ρ L r2 v2) (hR : R (.tuple #[v1, v2]) K) : G w0 (star (dfr ds) F) L (fun w => Ret w0 P fn F R .ret (act n ρ ds) w) :=
  g_return fun w _ hh => ⟨_, K, results2 hr (h1.res w (hh.ent (Ent.right _ _))) (h2.res w (hh.ent (Ent.right _ _))), hR, take_ent⟩
end
end

/-! ### A range over a function -/
/-- A call of yield: the caller's state goes on, or it has said 'no more'. -/
def Yields (P : Program) (l : Nat) (vs : List Value) (M M' Mx : List SProp) : Prop :=
  ∀ (w : World) (F : SProp), holds (star F (sl M)) w → YieldAt (WF none) 0 P l vs.toArray w fun e w' =>
    Std w w' ∧ ((e = .returned (.bool true) ∧ holds (star F (sl M')) w') ∨ (e = .returned (.bool false) ∧ holds (star F (sl Mx)) w'))
/-- An iterator's contract: it tells xs, one behind the other, till it is told 'no more'. -/
def Iter (P : Program) (gf : FuncId) (lb : List Value) {α : Type} (enc : α → List Value) (xs : List α) (J0 : List SProp) : Prop :=
  ∀ (l : Nat) (J Jx : List α → List SProp), J [] = J0 → (∀ pre x, (pre ++ [x]) <+: xs → Yields P l (enc x) (J pre) (J (pre ++ [x])) (Jx (pre ++ [x]))) →
    Ctr P gf (.func (.yield l) #[] #[] :: lb) J0 (fun _ L' => L' = J xs ∨ ∃ pre, pre <+: xs ∧ L' = Jx pre)

section
variable {w0 : World} {A : SProp} {L : List SProp} {ro : Option Nat} {P : Program} {Q : Exit → Act → World → Prop} {all : Array Oper} {os : List Oper} {n : Nat} {ρ : Nat → Value} {ds : List Nat}
variable {d : Option Tmp} {ty : TypeId} {pos : String} {af : Array Edge}
theorem o_yield {args : List Operand} {tys : Array TypeId} {vs : List Value} {cal : Operand} {l : Nat} {K M K' Kx : List SProp} (y : Yields P l vs K K' Kx)
    (hf : ev n ρ cal = .func (.yield l) #[] #[]) (ha : args.map (ev n ρ) = vs) [t : Take L K M]
    (h1 : G w0 A (K' ++ M) (fun w => runL ro P all Q os (act n (updo ρ d (.bool true)) ds) w)) (h0 : G w0 A (Kx ++ M) (fun w => runL ro P all Q os (act n (updo ρ d (.bool false)) ds) w)) :
    G w0 A L (fun w => runL ro P all Q ({ dst := d, op := .call { callee := .value cal, args := args.toArray, argTypes := tys }, type := ty, pos := pos, after := af, guard := none } :: os) (act n ρ ds) w) := by
  refine o_run rfl fun w hw hh => ?_
  refine ⟨fun _ _ => trivial, ?_⟩
  rw [Oper.semAt_eq _ _ _ (by intro c e; cases e), act_eval]
  have hh' : holds (star (star A (sl M)) (sl K)) w := by
    refine hh.ent ?_
    refine ((Ent.refl A).star ((sl_perm t.perm).trans (sl_append_to K M))).trans ?_
    exact ((Ent.refl A).star (Ent.comm _ _)).trans (Ent.assoc' _ _ _)
  obtain ⟨fn, tmps, assign, body, hy, hR⟩ := y w _ hh'
  have hrun : (execOp (ev n ρ) { dst := d, op := .call { callee := .value cal, args := args.toArray, argTypes := tys }, type := ty, pos := pos, after := af, guard := none }).run P w = .ok (.round l fn tmps assign body) w := by
    simp only [execOp, resolve, Deferred.ofValue, hf, List.map_toArray, ha]
    simp [invoke, hy]
  rw [hrun]
  refine ⟨fun h => (by cases h), ?_⟩
  have hR' : RoundIn (WF ro) (0 - 1) P l fn tmps assign body w _ := hR
  refine hR'.mono ?_
  have back : ∀ X : List SProp, Ent (star (star A (sl M)) (sl X)) (star A (sl (X ++ M))) := fun X =>
    (Ent.assoc _ _ _).trans ((Ent.refl A).star ((Ent.comm _ _).trans (sl_append_of _ _)))
  rintro e w' ⟨s, ⟨rfl, x⟩ | ⟨rfl, x⟩⟩
  · show runL ro P all Q os ((act n ρ ds).put d _) w'
    rw [act_put]
    exact h1 w' (hw.trans s) (x.ent (back _))
  · show runL ro P all Q os ((act n ρ ds).put d _) w'
    rw [act_put]
    exact h0 w' (hw.trans s) (x.ent (back _))

/-- A loop's record. -/
def rec (r : Loop) (st : LoopState) (pe : Option Code) : Loop := { r with state := st, pending := pe }
def RR (w0 : World) (l : Nat) (r : Loop) (F : SProp) (M : List SProp) (Mx : Code → List SProp) (e : Ending) (w' : World) : Prop :=
  Std w0 w' ∧ ((e = .returned (.bool true) ∧ holds (star F (sl (blk l (.loop (rec r .ready none)) :: M))) w') ∨ (e = .returned (.bool false) ∧ holds (star F (sl [ex fun c => sl (blk l (.loop (rec r .done (some c))) :: Mx c)])) w'))
def Begin (w0 : World) (P : Program) (l : Nat) (r : Loop) (F : SProp) (M : List SProp) (Mx : Code → List SProp) (body : Code) (a : Act) (w : World) : Prop :=
  ∃ w2, (Instr.beginRound l).run P w = .ok () w2 ∧ body.wpIn (WF (some l)) 0 P (roundPost P l (RR w0 l r F M Mx)) a w2
def NoExit : Exit → Act → World → Prop := fun _ _ _ => False
variable {l : Nat} {r : Loop} {F : SProp} {M : List SProp} {Mx : Code → List SProp} {body : Code} {a : Act}
theorem g_begin (h : G w0 (star (blk l (.loop (rec r .busy none))) F) L (fun w => body.wpIn (WF (some l)) 0 P (roundPost P l (RR w0 l r F M Mx)) a w)) :
    G w0 (star (blk l (.loop (rec r .ready none))) F) L (fun w => Begin w0 P l r F M Mx body a w) := fun w hw hh => by
  have hb : w.heap[l]? = some (.loop (rec r .ready none)) := (Sees.left (Sees.left (sees_blk l _))) w hh
  refine ⟨_, run_beginRound hb rfl, ?_⟩
  exact h _ (hw.trans (.putObj _ _ _)) (((hh.ent (Ent.assoc _ _ _)).putObj _).ent (Ent.assoc' _ _ _))
theorem round_put {K : List SProp} {w : World} {st : LoopState} {j : Option Code} (hh : holds (star (star (blk l (.loop (rec r .busy none))) F) (sl L)) w) (he : Ent (sl L) (sl K)) :
    holds (star F (sl (blk l (.loop (rec r st j)) :: K))) (w.putObj l (.loop (rec r st j))) := by
  have h1 := ((hh.ent (Ent.assoc _ _ _)).putObj (.loop (rec r st j)))
  refine h1.ent ?_
  exact ((Ent.refl _).star ((Ent.refl F).star he)).trans (Ent.swap _ _ _)
theorem g_next {K : List SProp} [tk : Take L M K] : G w0 (star (blk l (.loop (rec r .busy none))) F) L (fun w => roundPost P l (RR w0 l r F M Mx) .normal a w) := fun w hw hh => by
  have hb : w.heap[l]? = some (.loop (rec r .busy none)) := (Sees.left (Sees.left (sees_blk l _))) w hh
  exact ⟨_, _, run_endRound none hb, hw.trans (.putObj _ _ _), .inl ⟨rfl, round_put hh take_ent⟩⟩
theorem round_ex {c : Code} {w : World} {B : SProp} (h : holds (star B (sl (blk l (.loop (rec r .done (some c))) :: Mx c))) w) : holds (star B (sl [ex fun c => sl (blk l (.loop (rec r .done (some c))) :: Mx c)])) w :=
  h.ent ((Ent.refl B).star ((show Ent _ (ex fun c => sl (blk l (.loop (rec r .done (some c))) :: Mx c)) from fun _ _ x => ⟨c, x⟩).trans (sl_one_of _)))
theorem g_leave_ret {K : List SProp} [tk : Take L (Mx .ret) K] : G w0 (star (blk l (.loop (rec r .busy none))) F) L (fun w => roundPost P l (RR w0 l r F M Mx) .ret a w) := fun w hw hh => by
  have hb : w.heap[l]? = some (.loop (rec r .busy none)) := (Sees.left (Sees.left (sees_blk l _))) w hh
  exact ⟨_, _, run_endRound (some .ret) hb, hw.trans (.putObj _ _ _), .inr ⟨rfl, round_ex (round_put hh take_ent)⟩⟩
def updz (ρ : Nat → Value) : List Nat → List Value → Nat → Value
  | p :: ps, v :: vs => updz (upd ρ p v) ps vs
  | _, _ => ρ
theorem zip_tmps_l : ∀ (ps : List Nat) (vs : List Value) (ρ : Nat → Value) (ds : List Nat), (ps.zip vs).foldl (fun t (x : Nat × Value) => t.setIfInBounds x.1 x.2) (act n ρ ds).tmps = (act n (updz ρ ps vs) []).tmps
  | [], _, ρ, ds => rfl
  | _ :: _, [], ρ, ds => rfl
  | p :: ps, v :: vs, ρ, ds => by
    have h := zip_tmps_l ps vs (upd ρ p v) ds
    have e : (act n ρ ds).tmps.setIfInBounds p v = (act n (upd ρ p v) ds).tmps := congrArg Act.tmps (act_put n ρ ds (some p) v)
    simp only [List.zip_cons_cons, List.foldl_cons, updz]
    rw [e]
    exact h
theorem zip_tmps (ps : List Nat) (vs : List Value) (ρ : Nat → Value) (ds : List Nat) : (ps.toArray.zip vs.toArray).foldl (fun t (p, v) => t.setIfInBounds p v) (act n ρ ds).tmps = (act n (updz ρ ps vs) []).tmps := by
  rw [← zip_tmps_l ps vs ρ ds, List.zip_toArray, List.foldl_toArray]

/-- The iterator's call, with the loop's record laid. -/
theorem iter_core {α : Type} {gf : FuncId} {lb : List Value} {enc : α → List Value} {xs : List α} {ps : List Nat} {assign : Code} (J : List α → List SProp) (Jx : Code → List α → List SProp)
    (hit : ∀ K, Iter P gf lb enc xs (K :: J [])) (hps : ∀ x, (enc x).length = ps.length) (hrt : r.tmps = (act n ρ ds).tmps) (hrp : r.params = ps.toArray) (hra : r.assign = assign) (hrb : r.body = body)
    (hround : ∀ w0 F pre x, (pre ++ [x]) <+: xs → G w0 (star (blk l (.loop (rec r .ready none))) F) (J pre) (fun w => assign.wpIn (WF (some l)) 0 P (Exit.then (Begin w0 P l r F (J (pre ++ [x])) (fun c => Jx c (pre ++ [x])) body) NoExit) (act n (updz ρ ps (enc x)) []) w))
    {w : World} (hh : holds (star A (sl (blk l (.loop (rec r .ready none)) :: J []))) w) :
    Calls P gf (.func (.yield l) #[] #[] :: lb).toArray w fun e w' => (∃ v, e = .returned v) ∧ Std w w' ∧
      (holds (star A (sl (blk l (.loop (rec r .ready none)) :: J xs))) w' ∨ ∃ c pre, pre <+: xs ∧ holds (star A (sl (blk l (.loop (rec r .done (some c))) :: Jx c pre))) w') := by
  refine (hit (blk l (.loop (rec r .ready none))) l (fun pre => blk l (.loop (rec r .ready none)) :: J pre) (fun pre => [ex fun c => sl (blk l (.loop (rec r .done (some c))) :: Jx c pre)]) rfl ?_ w A hh).mono ?_
  · intro pre x hpre w1 F1 h1
    have hb : w1.heap[l]? = some (.loop (rec r .ready none)) := (Sees.right (Sees.left (sees_blk l _))) w1 h1
    have hy := run_yield (P := P) (args := (enc x).toArray) hb (by simp [rec, hrp, hps])
    refine ⟨_, _, _, _, hy, roundIn_of_wpIn trivial ?_⟩
    have h2 := hround w1 F1 pre x hpre w1 (.refl _) (h1.ent ((Ent.assoc' _ _ _).trans ((Ent.comm _ _).star (Ent.refl _))))
    have et : ({ tmps := ((rec r .ready none).params.zip (enc x).toArray).foldl (fun t (p, v) => t.setIfInBounds p v) (rec r .ready none).tmps, defers := [] } : Act) = act n (updz ρ ps (enc x)) [] := by
      have e1 : (rec r .ready none).params = ps.toArray := hrp
      have e2 : (rec r .ready none).tmps = (act n ρ ds).tmps := hrt
      rw [e1, e2, zip_tmps ps (enc x) ρ ds]
      rfl
    have ea : (rec r .ready none).assign = assign := hra
    have eb : (rec r .ready none).body = body := hrb
    rw [et, ea, eb]
    refine wpIn_mono h2 ?_
    intro e a' w' hq
    cases e with
    | normal => exact hq
    | _ => exact hq.elim
  · rintro e w' ⟨v, L', rfl, hr, hx, s⟩
    refine ⟨⟨v, rfl⟩, s, ?_⟩
    rcases hr with rfl | ⟨pre, hp, rfl⟩
    · exact .inl hx
    · obtain ⟨c, hc⟩ := (hx.ent (((Ent.refl A).star (sl_one_to _)).trans (Ent.comm _ _))).ex
      exact .inr ⟨c, pre, hp, hc.ent (Ent.comm _ _)⟩

/-- 'for .. := range g { .. }' in a function's own text. -/
theorem g_range {α : Type} {g : Operand} {ps : List Tmp} {assign : Code} {gf : FuncId} {lb : List Value} (hg : ev n ρ g = .func (.func gf) #[] lb.toArray) [en : En P gf] {enc : α → List Value} {xs : List α}
    (J : List α → List SProp) (Jx : Code → List α → List SProp) (hit : ∀ K, Iter P gf lb enc xs (K :: J [])) (hps : ∀ x, (enc x).length = ps.length) {K : List SProp} [tk : Take L (J []) K]
    (hround : ∀ w0 F l r pre x, (pre ++ [x]) <+: xs → G w0 (star (blk l (.loop (rec r .ready none))) F) (J pre) (fun w => assign.wpIn (WF (some l)) 0 P (Exit.then (Begin w0 P l r F (J (pre ++ [x])) (fun c => Jx c (pre ++ [x])) body) NoExit) (act n (updz ρ ps (enc x)) []) w))
    (hdone : ∀ D, G w0 (star (dfr (D :: ds)) F) (J xs) (fun w => Q .normal (act n ρ (D :: ds)) w))
    (hstop : ∀ D c pre, pre <+: xs → G w0 (star (dfr (D :: ds)) F) (Jx c pre) (fun w => c.wpIn (WF none) 0 P Q (act n ρ (D :: ds)) w)) :
    G w0 (star (dfr ds) F) L (fun w => (Code.rangeFunc g ps.toArray assign body).wpIn (WF none) 0 P Q (act n ρ ds) w) := by
  intro w hw hh
  refine wpIn_rangeFunc ?_
  intro fn _
  have hh1 := (((hh.ent ((Ent.refl _).star (take_ent (K := J [])))).alloc (.deferred (some []))).alloc (.loop (rec { state := .ready, pending := none, fn := fn, tmps := (act n ρ ds).tmps, params := ps.toArray, assign := assign, body := body, defers := w.heap.size } .ready none)))
  rw [World.size_alloc] at hh1
  refine ⟨w.heap.size + 1, [markOf w.heap.size], ((w.alloc (.deferred (some []))).alloc (.loop { state := .ready, pending := none, fn := fn, tmps := (act n ρ ds).tmps, params := ps.toArray, assign := assign, body := body, defers := w.heap.size })), { target := .fn (.func gf) lb.toArray, args := #[.func (.yield (w.heap.size + 1)) #[] #[]] }, ((w.alloc (.deferred (some []))).alloc (.loop { state := .ready, pending := none, fn := fn, tmps := (act n ρ ds).tmps, params := ps.toArray, assign := assign, body := body, defers := w.heap.size })), gf, (.func (.yield (w.heap.size + 1)) #[] #[] :: lb).toArray, ((w.alloc (.deferred (some []))).alloc (.loop { state := .ready, pending := none, fn := fn, tmps := (act n ρ ds).tmps, params := ps.toArray, assign := assign, body := body, defers := w.heap.size })), run_enterLoop_outer _ _ _ _ _, ?_, fun _ _ => trivial, ?_, fun h => (by cases h), ?_⟩
  · simp only [resolve, act_eval, hg, List.map_toArray, List.map_cons, List.map_nil]
    simp [Deferred.ofValue, ev]
  · simp [invoke, en.en _ _]
  · refine callsWF.2 ((iter_core (A := star (dfr (w.heap.size :: ds)) F) (n := n) (ρ := ρ) (ds := ds) (assign := assign) (body := body) (l := w.heap.size + 1) (r := { state := .ready, pending := none, fn := fn, tmps := (act n ρ ds).tmps, params := ps.toArray, assign := assign, body := body, defers := w.heap.size }) J Jx hit hps rfl rfl rfl rfl (fun w1 F1 pre x hp => hround w1 F1 _ _ pre x hp) (hh1.ent ?_)).mono ?_)
    · -- the record, the block, the rest
      refine Ent.trans ?_ (Ent.swap _ _ _)
      refine (Ent.refl _).star ?_
      exact (Ent.assoc' _ _ _).trans ((Ent.assoc' _ _ _).star (Ent.refl _))
    · rintro e w' ⟨⟨v, rfl⟩, s, h⟩
      have s1 : Std w0 w' := (hw.trans ((Std.alloc _ _).trans (Std.alloc _ _))).trans s
      rcases h with h | ⟨c, pre, hp, h⟩
      · have h1 := h.ent (Ent.swap _ _ _)
        have hb := (Sees.left (sees_blk (w.heap.size + 1) _)) w' h1
        exact ⟨none, _, run_endLoop hb (by simp [rec]), hdone w.heap.size _ (s1.trans (.putObj _ _ _)) ((h1.putObj _).ent (Ent.right _ _))⟩
      · have h1 := h.ent (Ent.swap _ _ _)
        have hb := (Sees.left (sees_blk (w.heap.size + 1) _)) w' h1
        exact ⟨some c, _, run_endLoop hb (by simp [rec]), hstop w.heap.size c pre hp _ (s1.trans (.putObj _ _ _)) ((h1.putObj _).ent (Ent.right _ _))⟩

/-- The same in a round of another such loop. -/
theorem g_range_in {l0 : Nat} {r0 : Loop} {α : Type} {g : Operand} {ps : List Tmp} {assign : Code} {gf : FuncId} {lb : List Value} (hg : ev n ρ g = .func (.func gf) #[] lb.toArray) [en : En P gf] {enc : α → List Value} {xs : List α}
    (J : List α → List SProp) (Jx : Code → List α → List SProp) (hit : ∀ K, Iter P gf lb enc xs (K :: J [])) (hps : ∀ x, (enc x).length = ps.length) {K : List SProp} [tk : Take L (J []) K]
    (hround : ∀ w0 F l r pre x, (pre ++ [x]) <+: xs → G w0 (star (blk l (.loop (rec r .ready none))) F) (J pre) (fun w => assign.wpIn (WF (some l)) 0 P (Exit.then (Begin w0 P l r F (J (pre ++ [x])) (fun c => Jx c (pre ++ [x])) body) NoExit) (act n (updz ρ ps (enc x)) []) w))
    (hdone : G w0 (star (blk l0 (.loop (rec r0 .busy none))) F) (J xs) (fun w => Q .normal (act n ρ ds) w))
    (hstop : ∀ c pre, pre <+: xs → G w0 (star (blk l0 (.loop (rec r0 .busy none))) F) (Jx c pre) (fun w => c.wpIn (WF (some l0)) 0 P Q (act n ρ ds) w)) :
    G w0 (star (blk l0 (.loop (rec r0 .busy none))) F) L (fun w => (Code.rangeFunc g ps.toArray assign body).wpIn (WF (some l0)) 0 P Q (act n ρ ds) w) := by
  intro w hw hh
  have hb0 : w.heap[l0]? = some (.loop (rec r0 .busy none)) := (Sees.left (Sees.left (sees_blk l0 _))) w hh
  refine wpIn_rangeFunc ?_
  intro fn _
  have hh1 := ((hh.ent ((Ent.refl _).star (take_ent (K := J [])))).alloc (.loop (rec { state := .ready, pending := none, fn := fn, tmps := (act n ρ ds).tmps, params := ps.toArray, assign := assign, body := body, defers := (rec r0 .busy none).defers } .ready none)))
  refine ⟨w.heap.size, [], (w.alloc (.loop { state := .ready, pending := none, fn := fn, tmps := (act n ρ ds).tmps, params := ps.toArray, assign := assign, body := body, defers := (rec r0 .busy none).defers })), { target := .fn (.func gf) lb.toArray, args := #[.func (.yield w.heap.size) #[] #[]] }, (w.alloc (.loop { state := .ready, pending := none, fn := fn, tmps := (act n ρ ds).tmps, params := ps.toArray, assign := assign, body := body, defers := (rec r0 .busy none).defers })), gf, (.func (.yield w.heap.size) #[] #[] :: lb).toArray, (w.alloc (.loop { state := .ready, pending := none, fn := fn, tmps := (act n ρ ds).tmps, params := ps.toArray, assign := assign, body := body, defers := (rec r0 .busy none).defers })), run_enterLoop_inner hb0 _ _ _ _ _, ?_, fun _ _ => trivial, ?_, fun h => (by cases h), ?_⟩
  · simp only [resolve, act_eval, hg, List.map_toArray, List.map_cons, List.map_nil]
    simp [Deferred.ofValue, ev]
  · simp [invoke, en.en _ _]
  · refine callsWF.2 ((iter_core (A := star (blk l0 (.loop (rec r0 .busy none))) F) (n := n) (ρ := ρ) (ds := ds) (assign := assign) (body := body) (l := w.heap.size) (r := { state := .ready, pending := none, fn := fn, tmps := (act n ρ ds).tmps, params := ps.toArray, assign := assign, body := body, defers := (rec r0 .busy none).defers }) J Jx hit hps rfl rfl rfl rfl (fun w1 F1 pre x hp => hround w1 F1 _ _ pre x hp) (hh1.ent (Ent.swap _ _ _))).mono ?_)
    rintro e w' ⟨⟨v, rfl⟩, s, h⟩
    have s1 : Std w0 w' := (hw.trans (Std.alloc _ _)).trans s
    rcases h with h | ⟨c, pre, hp, h⟩
    · have h1 := h.ent (Ent.swap _ _ _)
      have hb := (Sees.left (sees_blk w.heap.size _)) w' h1
      exact ⟨none, _, run_endLoop hb (by simp [rec]), hdone _ (s1.trans (.putObj _ _ _)) ((h1.putObj _).ent (Ent.right _ _))⟩
    · have h1 := h.ent (Ent.swap _ _ _)
      have hb := (Sees.left (sees_blk w.heap.size _)) w' h1
      exact ⟨some c, _, run_endLoop hb (by simp [rec]), hstop c pre hp _ (s1.trans (.putObj _ _ _)) ((h1.putObj _).ent (Ent.right _ _))⟩
end
end Go.Sl
/- A region that draws its order, walked once. Plain library, no program in sight. -/
namespace Go.Sl
open Go Go.Proofs

/-- One operation's run, told without its frame. -/
def oRun (P : Program) (o : Oper) (e : Operand → Value) (w : World) (K : Value → World → Prop) : Prop :=
  match (execOp e o).run P w with
  | .ok (.value v) w' => K v w'
  | .ok .skip w' => K undef w'
  | .ok (.enter f args) w' => Calls P f args w' fun
    | .returned v, w'' => K v w''
    | _, _ => False
  | .ok (.row row args) w' => RowsIn (WF none) 0 P row args w' K
  | .ok (.round l f tmps assign body) w' => RoundIn (WF none) 0 P l f tmps assign body w' fun
    | .returned v, w'' => K v w''
    | _, _ => False
  | _ => False

section
variable {w0 : World} {A : SProp} {ro : Option Nat} {P : Program} {n : Nat} {ds : List Nat}

theorem oRun_of {o : Oper} {ρ : Nat → Value} {w : World} {K : Value → World → Prop} (hd : ∀ c, o.op ≠ .defer c) (hn : ∀ d, o.dst = some d → d < n)
    (h : o.wpIn (WF ro) 0 P (act n ρ ds) w (fun a w' => ∃ v, a = act n (updo ρ o.dst v) ds ∧ K v w') NoExit) :
    oRun P o (ev n ρ) w (fun v w' => ∃ u, (∀ d, o.dst = some d → v = u) ∧ K u w') := by
  have key : ∀ v u, (act n ρ ds).put o.dst v = act n (updo ρ o.dst u) ds → ∀ d, o.dst = some d → v = u := by
    intro v u e d hdd
    rw [act_put, hdd] at e
    have e' := congrArg (fun a : Act => a.tmps[d]?) e
    have hb : Nat.blt d n = true := by rw [Nat.blt_eq]; exact hn d hdd
    simp only [act_tmp, hb, cond_true, updo, upd_same, Option.some.injEq] at e'
    exact e'
  obtain ⟨_, h⟩ := h
  rw [Oper.semAt_eq _ _ _ hd, act_eval] at h
  unfold oRun
  generalize (execOp (ev n ρ) o).run P w = r at h
  cases r with
  | halt x w' => cases x <;> exact h.elim
  | ok x w' =>
    cases x <;> simp only [Oper.uponIn] at h ⊢
    case value v => obtain ⟨u, e, k⟩ := h; exact ⟨u, key v u e, k⟩
    case skip => obtain ⟨u, e, k⟩ := h; exact ⟨u, key _ u e, k⟩
    case defer d =>
      obtain ⟨u, e, k⟩ := h
      have hdef := congrArg (fun a : Act => a.defers.length) e
      cases ho : o.dst <;> simp [Act.put, act, ho] at hdef
    case enter f args =>
      refine (callsWF.1 h.2).mono ?_
      intro e w'' he
      cases e with
      | returned v => obtain ⟨u, e, k⟩ := he; exact ⟨u, key v u e, k⟩
      | panicked c => exact he.elim
      | outgrown => obtain ⟨_, _, hf⟩ := he; exact hf.elim
    case row row args =>
      have h2 : RowsIn (WF none) 0 P row args w' _ := h.2
      exact h2.mono fun v w'' ⟨u, e, k⟩ => ⟨u, key v u e, k⟩
    case round l f tmps assign body =>
      have h2 : RoundIn (WF none) 0 P l f tmps assign body w' _ := h.2
      refine h2.mono ?_
      intro e w'' he
      cases e with
      | returned v => obtain ⟨u, e, k⟩ := he; exact ⟨u, key v u e, k⟩
      | panicked c => exact he.elim
      | outgrown => obtain ⟨_, _, hf⟩ := he; exact hf.elim
theorem oRun_to {o : Oper} {ρ : Nat → Value} {w : World} {K : Value → World → Prop} {next : Act → World → Prop} {Q : Exit → Act → World → Prop} (hd : ∀ c, o.op ≠ .defer c)
    (h : oRun P o (ev n ρ) w K) (k : ∀ v w', K v w' → next (act n (updo ρ o.dst v) ds) w') : o.wpIn (WF ro) 0 P (act n ρ ds) w next Q := by
  refine ⟨fun _ _ => trivial, ?_⟩
  rw [Oper.semAt_eq _ _ _ hd, act_eval]
  unfold oRun at h
  generalize (execOp (ev n ρ) o).run P w = r at h
  have k' : ∀ v w', K v w' → next ((act n ρ ds).put o.dst v) w' := fun v w' x => by rw [act_put]; exact k v w' x
  cases r with
  | halt x w' => cases x <;> exact h.elim
  | ok x w' =>
    cases x <;> simp only [Oper.uponIn] at h ⊢
    case value v => exact k' _ _ h
    case skip => exact k' _ _ h
    case enter f args =>
      refine ⟨fun h => (by cases h), callsWF.2 (h.mono ?_)⟩
      intro e w'' he
      cases e with
      | returned v => exact k' _ _ he
      | panicked c => exact he.elim
      | outgrown => exact he.elim
    case row row args =>
      have h2 : RowsIn (WF ro) (0 - 1) P row args w' K := h
      exact ⟨fun h => (by cases h), h2.mono fun v w'' x => k' _ _ x⟩
    case round l f tmps assign body =>
      have h2 : RoundIn (WF ro) (0 - 1) P l f tmps assign body w' _ := h
      refine ⟨fun h => (by cases h), h2.mono ?_⟩
      intro e w'' he
      cases e with
      | returned v => exact k' _ _ he
      | panicked c => exact he.elim
      | outgrown => exact he.elim

/-- One operation's step, off the walk's own rules: it leads to some value and list of the kind R. -/
def OStep (w0 : World) (A : SProp) (ro : Option Nat) (P : Program) (all : Array Oper) (n : Nat) (ds : List Nat) (ρ : Nat → Value) (L : List SProp) (o : Oper) (R : Value → List SProp → Prop) : Prop :=
  ∀ Q, (∀ v M, R v M → G w0 A M (fun w => Q .normal (act n (updo ρ o.dst v) ds) w)) → G w0 A L (fun w => runL ro P all Q [o] (act n ρ ds) w)

/-- What a step comes to in a frame that agrees on all that the operation looks at. -/
theorem OStep.run {all : Array Oper} {ρ ρ' : Nat → Value} {L : List SProp} {o : Oper} {R : Value → List SProp → Prop} (h : OStep w0 A ro P all n ds ρ L o R) (hd : ∀ c, o.op ≠ .defer c) (hs : ∀ cs b, o.op ≠ .select cs b)
    (hn : ∀ d, o.dst = some d → d < n) (hl : ∀ t ∈ o.looksAt all, ρ' t = ρ t) {w : World} (hw : Std w0 w) (hh : holds (star A (sl L)) w) {next : Act → World → Prop} {Q : Exit → Act → World → Prop}
    (k : ∀ v u M w', R u M → (∀ d, o.dst = some d → v = u) → Std w0 w' → holds (star A (sl M)) w' → next (act n (updo ρ' o.dst v) ds) w') :
    if Region.wanted o (yielded all (act n ρ' ds).tmps) then o.wpIn (WF ro) 0 P (act n ρ' ds) w next Q else next ((act n ρ' ds).put o.dst undef) w := by
  have h1 := h (fun e a w' => e = .normal ∧ ∃ u, a = act n (updo ρ o.dst u) ds ∧ ∃ M, R u M ∧ Std w0 w' ∧ holds (star A (sl M)) w') (fun v M r w' s x => ⟨rfl, v, rfl, M, r, s, x⟩) w hw hh
  have hwant : Region.wanted o (yielded all (act n ρ' ds).tmps) = Region.wanted o (yielded all (act n ρ ds).tmps) := by
    unfold Region.wanted
    cases hg : o.guard with
    | none => rfl
    | some p =>
      obtain ⟨j, b⟩ := p
      have : yielded all (act n ρ' ds).tmps j = yielded all (act n ρ ds).tmps j := by
        unfold yielded
        cases hj : (all[j]?).bind (·.dst) with
        | none => rfl
        | some t =>
          have ht : ρ' t = ρ t := hl t (by
            unfold Oper.looksAt
            rw [hg]
            simp [hj])
          simp [act_tmp, ht]
      simp [this]
  rw [hwant]
  simp only [runL] at h1
  split
  · rename_i hw1
    rw [if_pos hw1] at h1
    have h2 := oRun_of (K := fun u w' => ∃ M, R u M ∧ Std w0 w' ∧ holds (star A (sl M)) w') hd hn (by
      unfold Oper.wpIn at h1 ⊢
      refine ⟨h1.1, ?_⟩
      have h1 := h1.2
      generalize (o.semAt (WF ro).round (act n ρ ds).eval).run P w = r at h1 ⊢
      cases r with
      | halt x w' => cases x <;> simp only [Oper.uponIn] at h1 ⊢ <;> first | exact h1 | (obtain ⟨e, _⟩ := h1; cases e)
      | ok x w' =>
        cases x <;> simp only [Oper.uponIn] at h1 ⊢ <;> first | exact h1 | skip
        case value v => exact h1.2
        case skip => exact h1.2
        case defer d => exact h1.2
        case enter f args =>
          refine ⟨h1.1, h1.2.mono ?_⟩
          intro e w'' he
          cases e with
          | returned v => exact he.2
          | panicked c => obtain ⟨e, _⟩ := he; cases e
          | outgrown => obtain ⟨_, _, e, _⟩ := he; cases e
        case row row args => exact ⟨h1.1, h1.2.mono fun v w'' x => x.2⟩
        case round l f tmps assign body =>
          refine ⟨h1.1, h1.2.mono ?_⟩
          intro e w'' he
          cases e with
          | returned v => exact he.2
          | panicked c => obtain ⟨e, _⟩ := he; cases e
          | outgrown => obtain ⟨_, _, e, _⟩ := he; cases e)
    have he : execOp (ev n ρ) o = execOp (ev n ρ') o := execOp_congr o hs fun x hx => by
      cases x with
      | tmp t =>
        have ht : ρ' t = ρ t := hl t (by
          unfold Oper.looksAt
          refine List.mem_append_left _ (List.mem_filterMap.2 ⟨.tmp t, by simpa using hx, rfl⟩))
        simp [ev, ht]
      | _ => rfl
    have h3 : oRun P o (ev n ρ') w (fun v w' => ∃ u, (∀ d, o.dst = some d → v = u) ∧ ∃ M, R u M ∧ Std w0 w' ∧ holds (star A (sl M)) w') := by
      unfold oRun at h2 ⊢
      rw [← he]
      exact h2
    exact oRun_to hd h3 fun v w' ⟨u, hu, M, r, s, x⟩ => k v u M w' r hu s x
  · rename_i hw1
    rw [if_neg hw1] at h1
    obtain ⟨_, u, e, M, r, s, x⟩ := h1
    rw [act_put]
    refine k undef u M w r (fun d hdd => ?_) s x
    rw [act_put, hdd] at e
    have e' := congrArg (fun a : Act => a.tmps[d]?) e
    have hb : Nat.blt d n = true := by rw [Nat.blt_eq]; exact hn d hdd
    simp only [act_tmp, hb, cond_true, updo, upd_same, Option.some.injEq] at e'
    exact e'

/-! ### What may be looked up about a region's text -/
def masks : List Oper → List Nat → List Nat
  | [], acc => acc
  | o :: os, acc => masks os (acc ++ [o.after.toList.foldl (fun s e => if Region.binds .any e then s ||| 2 ^ e.on ||| acc.getD e.on 0 else s) 0])
def isAnc (b : List Nat) (i j : Nat) : Bool := (b.getD i 0).testBit j
def okOp : Op → Bool
  | .defer _ | .select .. => false
  | _ => true
/-- The region's text is in order: ancestors are closed, edges point backward, each operation writes a slot of its own, and what it looks at is written by those ahead of it or behind it. -/
def okRegion (l : List Oper) (n : Nat) (b : List Nat) : Bool :=
  (List.range l.length).all fun i => match l[i]? with
    | none => true
    | some o =>
      okOp o.op && !isAnc b i i && (o.after.toList.all fun e => !Region.binds .any e || (Nat.blt e.on i)) &&
      ((List.range l.length).all fun j => !isAnc b i j || (o.after.toList.any fun e => Region.binds .any e && (e.on == j || isAnc b e.on j))) &&
      (match o.dst with
       | some d => Nat.blt d n && (List.range l.length).all fun j => j == i || ((l[j]?).bind (·.dst)) != some d
       | none => true) &&
      ((o.looksAt l.toArray).all fun t => (List.range l.length).all fun j => ((l[j]?).bind (·.dst)) != some t || isAnc b i j || i == j || isAnc b j i)
/-- The order in which the walk takes the operations: each behind its ancestors; behind a loud one only what hangs on it. -/
def okOrder (lou : List Nat) (b : List Nat) : List Nat → Bool
  | [] => true
  | i :: π => (!lou.contains i || π.all fun k => isAnc b k i) && (π.all fun k => !isAnc b i k) && okOrder lou b π
def nodupB : List Nat → Bool
  | [] => true
  | a :: l => !l.contains a && nodupB l
theorem nodup_of : ∀ {l : List Nat}, nodupB l = true → l.Nodup
  | [], _ => List.nodup_nil
  | a :: l, h => by
    simp only [nodupB, Bool.and_eq_true] at h
    exact List.nodup_cons.2 ⟨by simpa using h.1, nodup_of h.2⟩
def okPerm (m : Nat) (π : List Nat) : Bool := (π.length == m && (List.range m).all fun i => π.contains i) && (nodupB π && π.all fun i => Nat.blt i m)
/-- What is owed: each operation's step, the loud ones' with what they change. -/
def okSync (b : List Nat) (m i : Nat) (π : List Nat) : Bool := (List.range m).all fun j => π.contains j || (j == i || isAnc b i j)
def ObR (w0 : World) (A : SProp) (ro : Option Nat) (P : Program) (l : List Oper) (n : Nat) (ds : List Nat) (lou : List Nat) (K : (Nat → Value) → List SProp → Prop) : List Nat → List SProp → (Nat → Value) → List SProp → Prop
  | [], Lq, ρ, Lp => K ρ (Lq ++ Lp)
  | i :: π, Lq, ρ, Lp => match l[i]? with
    | none => False
    | some o => if lou.contains i then
        OStep w0 A ro P l.toArray n ds ρ (Lq ++ Lp) o (fun v M => ∃ Lq' Lp', Ent (sl M) (sl (Lq' ++ Lp')) ∧ (Lq' = Lq ∨ okSync (masks l []) l.length i π = true) ∧ ObR w0 A ro P l n ds lou K π Lq' (updo ρ o.dst v) Lp')
      else ∃ v, (∀ X, OStep w0 A ro P l.toArray n ds ρ (Lq ++ X) o (fun u M => u = v ∧ M = Lq ++ X)) ∧ ObR w0 A ro P l n ds lou K π Lq (updo ρ o.dst v) Lp
abbrev Ob (w0 : World) (A : SProp) (ro : Option Nat) (P : Program) (l : List Oper) (n : Nat) (ds : List Nat) (lou : List Nat) (Lq : List SProp) (K : (Nat → Value) → List SProp → Prop) (π : List Nat) (ρ : Nat → Value) (Lp : List SProp) : Prop :=
  ObR w0 A ro P l n ds lou K π Lq ρ Lp

/-! ### Soundness -/
def dstAt (l : List Oper) (j : Nat) : Option Tmp := (l[j]?).bind (·.dst)
abbrev Pd := Nat × (Nat → Value) × Value
/-- The frame where the operations of 'pend' have been walked but not run. -/
def cur (l : List Oper) (ρ0 : Nat → Value) (pend : List Pd) (ρf : Nat → Value) : Nat → Value := fun t => cond (pend.any (fun p => dstAt l p.1 == some t)) (ρ0 t) (ρf t)

structure RegFacts (l : List Oper) (n : Nat) (b : List Nat) : Prop where
  op : ∀ (i : Nat) (o : Oper), l[i]? = some o → okOp o.op = true
  irr : ∀ i, i < l.length → isAnc b i i = false
  back : ∀ (i : Nat) (o : Oper), l[i]? = some o → ∀ e ∈ o.after, Region.binds .any e = true → e.on < i
  step : ∀ (i : Nat) (o : Oper), l[i]? = some o → ∀ j, j < l.length → isAnc b i j = true → ∃ e ∈ o.after, Region.binds .any e = true ∧ (e.on = j ∨ isAnc b e.on j = true)
  dlt : ∀ (i : Nat) (o : Oper), l[i]? = some o → ∀ d, o.dst = some d → d < n
  dne : ∀ i j t, i < l.length → j < l.length → dstAt l i = some t → dstAt l j = some t → i = j
  look : ∀ (i : Nat) (o : Oper), l[i]? = some o → ∀ t ∈ o.looksAt l.toArray, ∀ j, j < l.length → dstAt l j = some t → isAnc b i j = true ∨ i = j ∨ isAnc b j i = true
theorem RegFacts.of {l : List Oper} {b : List Nat} (h : okRegion l n b = true) : RegFacts l n b := by
  unfold okRegion at h
  rw [List.all_eq_true] at h
  have at_ : ∀ (i : Nat) (o : Oper), l[i]? = some o → _ := fun i o ho => by
    have hi : i < l.length := (List.getElem?_eq_some_iff.1 ho).1
    have := h i (List.mem_range.2 hi)
    rw [ho] at this
    simp only [Bool.and_eq_true] at this
    exact this
  refine ⟨fun i o ho => (at_ i o ho).1.1.1.1.1, ?_, ?_, ?_, ?_, ?_, ?_⟩
  · intro i hi
    have := (at_ i l[i] (List.getElem?_eq_getElem hi)).1.1.1.1.2
    simpa using this
  · intro i o ho e he hb
    have := (at_ i o ho).1.1.1.2
    rw [List.all_eq_true] at this
    have := this e (by simpa using he)
    simpa [hb, Nat.blt_eq] using this
  · intro i o ho j hj ha
    have := (at_ i o ho).1.1.2
    rw [List.all_eq_true] at this
    have := this j (List.mem_range.2 hj)
    rw [ha] at this
    simp only [Bool.not_true, Bool.false_or, List.any_eq_true, Bool.and_eq_true, Bool.or_eq_true] at this
    obtain ⟨e, he, hb, hx⟩ := this
    exact ⟨e, by simpa using he, hb, hx.imp (by simp) id⟩
  · intro i o ho d hd
    have := (at_ i o ho).1.2
    rw [hd] at this
    simp only [Bool.and_eq_true] at this
    have h1 := this.1
    rwa [Nat.blt_eq] at h1
  · intro i j t hi hj h1 h2
    obtain ⟨o, ho, hd⟩ : ∃ o, l[i]? = some o ∧ o.dst = some t := by
      unfold dstAt at h1
      rw [List.getElem?_eq_getElem hi] at h1 ⊢
      exact ⟨_, rfl, h1⟩
    have := (at_ i o ho).1.2
    rw [hd] at this
    simp only [Bool.and_eq_true, List.all_eq_true] at this
    have h3 := this.2 j (List.mem_range.2 hj)
    simp only [Bool.or_eq_true, beq_iff_eq, bne_iff_ne] at h3
    rcases h3 with h3 | h3
    · exact h3.symm
    · exact absurd h2 h3
  · intro i o ho t ht j hj hd
    have := (at_ i o ho).2
    rw [List.all_eq_true] at this
    have := this t ht
    rw [List.all_eq_true] at this
    have h3 := this j (List.mem_range.2 hj)
    simp only [Bool.or_eq_true, beq_iff_eq, bne_iff_ne] at h3
    rcases h3 with ((h3 | h3) | h3) | h3
    · exact absurd hd h3
    · exact .inl h3
    · exact .inr (.inl h3)
    · exact .inr (.inr h3)

structure Inv (w0 : World) (A : SProp) (ro : Option Nat) (P : Program) (l : List Oper) (n : Nat) (ds : List Nat) (b : List Nat) (Lq : List SProp) (ρ0 : Nat → Value) (listed : Array Bool) (π : List Nat) (pend : List Pd) (ρf : Nat → Value) : Prop where
  sz : listed.size = l.length
  inπ : ∀ j ∈ π, j < l.length ∧ listed.getD j false = false ∧ ∀ p ∈ pend, p.1 ≠ j
  inP : ∀ p ∈ pend, p.1 < l.length ∧ listed.getD p.1 false = false
  all : ∀ j, j < l.length → listed.getD j false = true ∨ (∃ p ∈ pend, p.1 = j) ∨ j ∈ π
  nπ : π.Nodup
  nP : (pend.map (·.1)).Nodup
  closed : ∀ i j, listed.getD i false = true → isAnc b i j = true → j < l.length → listed.getD j false = true
  base : ∀ t, (∀ j, j < l.length → j ∉ π → dstAt l j ≠ some t) → ρf t = ρ0 t
  pa : ∀ p ∈ pend, ∀ j ∈ π, isAnc b p.1 j = false
  pq : ∀ p ∈ pend, ∀ o, l[p.1]? = some o → (∀ X, OStep w0 A ro P l.toArray n ds p.2.1 (Lq ++ X) o (fun u M => u = p.2.2 ∧ M = Lq ++ X)) ∧ (∀ d, o.dst = some d → ρf d = p.2.2) ∧
    ∀ t ∈ o.looksAt l.toArray, ((∃ j, j < l.length ∧ isAnc b p.1 j = true ∧ dstAt l j = some t) → p.2.1 t = ρf t) ∧ ((∀ j, j < l.length → isAnc b p.1 j = true → dstAt l j ≠ some t) → p.2.1 t = ρ0 t)

section sound
variable {l : List Oper} {b lou : List Nat} {Lq : List SProp} {ρ0 : Nat → Value} {K : (Nat → Value) → List SProp → Prop}
theorem dstAt_of {i : Nat} {o : Oper} (ho : l[i]? = some o) : dstAt l i = o.dst := by simp [dstAt, ho]
theorem updo_ne {ρ : Nat → Value} {d : Option Tmp} {t : Nat} {v : Value} (h : d ≠ some t) : updo ρ d v t = ρ t := by
  cases d with
  | none => rfl
  | some d => exact upd_ne _ _ (fun e => h (by rw [e]))

/-- A quiet operation is walked. -/
theorem Inv.pop (rf : RegFacts l n b) {listed : Array Bool} {k : Nat} {π : List Nat} {pend : List Pd} {ρf : Nat → Value} {Lp : List SProp} (h : Inv w0 A ro P l n ds b Lq ρ0 listed (k :: π) pend ρf) (ho : okOrder lou b (k :: π) = true)
    (hq : lou.contains k = false) (hob : Ob w0 A ro P l n ds lou Lq K (k :: π) ρf Lp) :
    ∃ v, ∃ o, l[k]? = some o ∧ Inv w0 A ro P l n ds b Lq ρ0 listed π ((k, ρf, v) :: pend) (updo ρf o.dst v) ∧ Ob w0 A ro P l n ds lou Lq K π (updo ρf o.dst v) Lp ∧ cur l ρ0 ((k, ρf, v) :: pend) (updo ρf o.dst v) = cur l ρ0 pend ρf := by
  simp only [Ob, ObR] at hob
  cases hk : l[k]? with
  | none => rw [hk] at hob; exact hob.elim
  | some o =>
    rw [hk] at hob
    simp only [hq] at hob
    obtain ⟨v, hst, hrest⟩ := hob
    simp only [okOrder, Bool.and_eq_true, List.all_eq_true] at ho
    have hkl : k < l.length := (List.getElem?_eq_some_iff.1 hk).1
    have hkd := dstAt_of hk
    obtain ⟨hkn, hπn⟩ := List.nodup_cons.1 h.nπ
    have hbase : ∀ t, dstAt l k = some t → ρf t = ρ0 t := fun t ht => h.base t fun j hj hjn e => hjn ((rf.dne j k t hj hkl e ht).symm ▸ List.mem_cons_self)
    refine ⟨v, o, rfl, ?_, hrest, ?_⟩
    · refine ⟨h.sz, ?_, ?_, ?_, hπn, ?_, h.closed, ?_, ?_, ?_⟩
      · intro j hj
        obtain ⟨h1, h2, h3⟩ := h.inπ j (List.mem_cons_of_mem _ hj)
        refine ⟨h1, h2, fun p hp => ?_⟩
        rcases List.mem_cons.1 hp with rfl | hp
        · rintro rfl; exact hkn hj
        · exact h3 p hp
      · intro p hp
        rcases List.mem_cons.1 hp with rfl | hp
        · exact ⟨hkl, (h.inπ k List.mem_cons_self).2.1⟩
        · exact h.inP p hp
      · intro j hj
        rcases h.all j hj with h1 | ⟨p, hp, rfl⟩ | h1
        · exact .inl h1
        · exact .inr (.inl ⟨p, List.mem_cons_of_mem _ hp, rfl⟩)
        · rcases List.mem_cons.1 h1 with rfl | h1
          · exact .inr (.inl ⟨_, List.mem_cons_self, rfl⟩)
          · exact .inr (.inr h1)
      · rw [List.map_cons, List.nodup_cons]
        refine ⟨fun hm => ?_, h.nP⟩
        obtain ⟨p, hp, e⟩ := List.mem_map.1 hm
        exact (h.inπ k List.mem_cons_self).2.2 p hp e
      · intro t ht
        rw [updo_ne (by rw [← hkd]; exact ht k hkl hkn)]
        exact h.base t fun j hj hjn => ht j hj fun hjm => hjn (List.mem_cons_of_mem _ hjm)
      · intro p hp j hj
        rcases List.mem_cons.1 hp with rfl | hp
        · have := ho.1.2 j hj
          simpa using this
        · exact h.pa p hp j (List.mem_cons_of_mem _ hj)
      · intro p hp o' ho'
        rcases List.mem_cons.1 hp with rfl | hp
        · rw [hk] at ho'
          obtain rfl := Option.some.inj ho'
          refine ⟨hst, fun d hd => by rw [hd]; simp [updo, upd_same], fun t ht => ⟨?_, ?_⟩⟩
          · rintro ⟨j, hj, ha, hd⟩
            refine (updo_ne fun e => ?_).symm
            have : j = k := rf.dne j k t hj hkl hd (by rw [hkd]; exact e)
            subst this
            rw [rf.irr j hj] at ha; cases ha
          · intro hno
            refine h.base t fun j hj hjn e => ?_
            rcases rf.look k o hk t ht j hj e with h1 | h1 | h1
            · exact hno j hj h1 e
            · exact hjn (by rw [← h1]; exact List.mem_cons_self)
            · rcases h.all j hj with h2 | ⟨p, hp, rfl⟩ | h2
              · have := h.closed j k h2 h1 hkl
                rw [(h.inπ k List.mem_cons_self).2.1] at this; cases this
              · rw [h.pa p hp k List.mem_cons_self] at h1; cases h1
              · exact hjn h2
        · obtain ⟨h1, h2, h3⟩ := h.pq p hp o' ho'
          have hne : p.1 ≠ k := (h.inπ k List.mem_cons_self).2.2 p hp
          have hpl := (h.inP p hp).1
          have hpak := h.pa p hp k List.mem_cons_self
          refine ⟨h1, fun d hd => ?_, fun t ht => ⟨?_, (h3 t ht).2⟩⟩
          · rw [updo_ne]
            · exact h2 d hd
            · intro e
              exact hne (rf.dne p.1 k d hpl hkl (by rw [dstAt_of ho']; exact hd) (by rw [hkd]; exact e))
          · rintro ⟨j, hj, ha, hd⟩
            rw [(h3 t ht).1 ⟨j, hj, ha, hd⟩]
            refine (updo_ne fun e => ?_).symm
            have : j = k := rf.dne j k t hj hkl hd (by rw [hkd]; exact e)
            subst this
            rw [hpak] at ha; cases ha
    · funext t
      unfold cur
      simp only [List.any_cons]
      by_cases e : dstAt l k = some t
      · have hno : pend.any (fun p => dstAt l p.1 == some t) = false := by
          rw [List.any_eq_false]
          intro p hp
          simp only [beq_iff_eq]
          intro e2
          exact (h.inπ k List.mem_cons_self).2.2 p hp (rf.dne p.1 k t (h.inP p hp).1 hkl e2 e)
        simp [e, hno, hbase t e]
      · have e1 : (dstAt l k == some t) = false := by simpa using e
        rw [e1, Bool.false_or, updo_ne (by rw [← hkd]; exact e)]

theorem okOrder_tail {k : Nat} {π : List Nat} (h : okOrder lou b (k :: π) = true) : okOrder lou b π = true := by
  simp only [okOrder, Bool.and_eq_true] at h
  exact h.2
/-- Quiet operations are walked till i is reached. -/
theorem Inv.pops (rf : RegFacts l n b) {listed : Array Bool} {i : Nat} {πb : List Nat} : ∀ (πa : List Nat) {pend : List Pd} {ρf : Nat → Value} {Lp : List SProp}, Inv w0 A ro P l n ds b Lq ρ0 listed (πa ++ i :: πb) pend ρf → okOrder lou b (πa ++ i :: πb) = true →
    (∀ k, isAnc b i k = true → k < l.length → listed.getD k false = true) → Ob w0 A ro P l n ds lou Lq K (πa ++ i :: πb) ρf Lp →
    ∃ pend' ρf', Inv w0 A ro P l n ds b Lq ρ0 listed (i :: πb) pend' ρf' ∧ okOrder lou b (i :: πb) = true ∧ Ob w0 A ro P l n ds lou Lq K (i :: πb) ρf' Lp ∧ cur l ρ0 pend' ρf' = cur l ρ0 pend ρf ∧ pend'.length = pend.length + πa.length
  | [], pend, ρf, Lp, h, ho, _, hob => ⟨pend, ρf, h, ho, hob, rfl, by simp⟩
  | k :: πa, pend, ρf, Lp, h, ho, hr, hob => by
    have hq : lou.contains k = false := by
      cases hc : lou.contains k with
      | false => rfl
      | true =>
        have h1 : okOrder lou b (k :: (πa ++ i :: πb)) = true := ho
        simp only [okOrder, Bool.and_eq_true, hc, Bool.not_true, Bool.false_or, List.all_eq_true] at h1
        have h2 := h1.1.1 i (by simp)
        obtain ⟨h3, h4, _⟩ := h.inπ k (by simp)
        rw [hr k h2 h3] at h4; cases h4
    obtain ⟨v, o, _, hi, hob', hc⟩ := h.pop rf ho hq hob
    obtain ⟨pend', ρf', h1, h2, h3, h4, h5⟩ := Inv.pops rf πa hi (okOrder_tail ho) hr hob'
    exact ⟨pend', ρf', h1, h2, h3, h4.trans hc, by rw [h5]; simp; omega⟩

theorem getD_set {listed : Array Bool} {i j : Nat} (hi : i < listed.size) : (listed.setIfInBounds i true).getD j false = if j = i then true else listed.getD j false := by
  by_cases e : j = i
  · subst e; simp [hi]
  · have e' : i ≠ j := fun h => e h.symm
    simp [Array.getElem?_setIfInBounds_ne e', e]

theorem draw_sound (rf : RegFacts l n b) (hbm : b = masks l []) {Q : Exit → Act → World → Prop} (hK : ∀ ρ L, K ρ L → G w0 A L (fun w => Q .normal (act n ρ ds) w)) :
    ∀ (k : Nat) (Lq : List SProp) (listed : Array Bool) (π : List Nat) (pend : List Pd) (ρf : Nat → Value) (Lp : List SProp) (w : World), Inv w0 A ro P l n ds b Lq ρ0 listed π pend ρf → okOrder lou b π = true → Ob w0 A ro P l n ds lou Lq K π ρf Lp →
      k = pend.length + π.length → Std w0 w → holds (star A (sl (Lq ++ Lp))) w → wpAnyIn (WF ro) 0 P .any l.toArray Q k listed (act n (cur l ρ0 pend ρf) ds) w := by
  intro k
  induction k with
  | zero =>
    intro Lq listed π pend ρf Lp w hI ho hob hk hw hh
    have hp : pend = [] := List.eq_nil_of_length_eq_zero (by omega)
    have hπ : π = [] := List.eq_nil_of_length_eq_zero (by omega)
    subst hp hπ
    refine ⟨?_, ?_⟩
    · unfold Region.ready
      rw [List.filter_eq_nil_iff]
      intro i hi
      have hil : i < l.length := by simpa using hi
      have h1 : listed.getD i false = true := by
        rcases hI.all i hil with h1 | ⟨p, hp, _⟩ | h1
        · exact h1
        · cases hp
        · cases h1
      have h2 : listed.getD i true = true := by
        have his : i < listed.size := by rw [hI.sz]; exact hil
        simp [his] at h1 ⊢
        exact h1
      rw [h2]
      simp
    · have h4 := hK ρf (Lq ++ Lp) (by simpa [Ob, ObR] using hob) w hw hh
      have e : cur l ρ0 [] ρf = ρf := by funext t; simp [cur]
      rw [e]
      exact h4
  | succ k ih =>
    intro Lq listed π pend ρf Lp w hI ho hob hk hw hh
    have getT : ∀ i, i < l.length → listed.getD i true = listed.getD i false := fun i hi => by
      have his : i < listed.size := by rw [hI.sz]; exact hi
      simp [his]
    refine ⟨?_, ?_⟩
    · -- something is ready: the least that is not listed
      intro hnil
      exfalso
      obtain ⟨j, hj, hjl⟩ : ∃ j, j < l.length ∧ listed.getD j false = false := by
        cases pend with
        | cons p _ => exact ⟨p.1, (hI.inP p List.mem_cons_self).1, (hI.inP p List.mem_cons_self).2⟩
        | nil =>
          cases π with
          | cons j _ => exact ⟨j, (hI.inπ j List.mem_cons_self).1, (hI.inπ j List.mem_cons_self).2.1⟩
          | nil => simp at hk
      have key : ∀ j, j < l.length → listed.getD j false = true := by
        intro j
        induction j using Nat.strongRecOn with
        | _ j ihj =>
          intro hj
          cases hc : listed.getD j false with
          | true => rfl
          | false =>
            have : j ∈ Region.ready .any l.toArray listed := by
              unfold Region.ready
              rw [List.mem_filter]
              refine ⟨by simpa using hj, ?_⟩
              rw [getT j hj, hc]
              simp only [Bool.not_false, Bool.true_and, List.getElem?_toArray, List.getElem?_eq_getElem hj, Option.map_some, Option.getD_some]
              rw [Array.all_eq_true_iff_forall_mem]
              intro e he
              cases hb : Region.binds .any e with
              | false => rfl
              | true =>
                have hlt := rf.back j l[j] (List.getElem?_eq_getElem hj) e he hb
                simpa using ihj e.on hlt (by omega)
            rw [hnil] at this; cases this
      rw [key j hj] at hjl; cases hjl
    · intro i hi
      unfold Region.ready at hi
      rw [List.mem_filter] at hi
      obtain ⟨hil, hi⟩ := hi
      have hil : i < l.length := by simpa using hil
      rw [getT i hil] at hi
      simp only [Bool.and_eq_true, List.getElem?_toArray, List.getElem?_eq_getElem hil, Option.map_some, Option.getD_some] at hi
      obtain ⟨hnl, hed⟩ := hi
      have hnl : listed.getD i false = false := by simpa using hnl
      rw [Array.all_eq_true_iff_forall_mem] at hed
      have hoi : l[i]? = some l[i] := List.getElem?_eq_getElem hil
      -- its ancestors are listed
      have hanc : ∀ j, isAnc b i j = true → j < l.length → listed.getD j false = true := by
        intro j ha hj
        obtain ⟨e, he, hb, hx⟩ := rf.step i l[i] hoi j hj ha
        have h1 := hed e he
        rw [hb] at h1
        simp only [Bool.not_true, Bool.false_or] at h1
        rcases hx with rfl | hx
        · exact h1
        · exact hI.closed e.on j h1 hx hj
      have hlsz : i < listed.size := by rw [hI.sz]; exact hil
      have hclosed' : ∀ x y, (listed.setIfInBounds i true).getD x false = true → isAnc b x y = true → y < l.length → (listed.setIfInBounds i true).getD y false = true := by
        intro x y hx ha hy
        rw [getD_set hlsz] at hx ⊢
        split
        · rfl
        · split at hx
          · rename_i e; subst e; exact hanc y ha hy
          · exact hI.closed x y hx ha hy
      -- the case of an operation that has been walked and not run
      have pendCase : ∀ (π : List Nat) (pend : List Pd) (ρf : Nat → Value), Inv w0 A ro P l n ds b Lq ρ0 listed π pend ρf → okOrder lou b π = true → Ob w0 A ro P l n ds lou Lq K π ρf Lp → k + 1 = pend.length + π.length → (∃ p ∈ pend, p.1 = i) →
          wpOpIn (WF ro) 0 P l.toArray Q i (wpAnyIn (WF ro) 0 P .any l.toArray Q k (listed.setIfInBounds i true)) (act n (cur l ρ0 pend ρf) ds) w := by
        rintro π pend ρf hI ho hob hk ⟨p, hp, hpi⟩
        obtain ⟨hst, hdv, hlk⟩ := hI.pq p hp l[i] (by rw [hpi]; exact hoi)
        have hopd := rf.op i l[i] hoi
        have hcl : ∀ t ∈ (l[i]).looksAt l.toArray, cur l ρ0 pend ρf t = p.2.1 t := by
          intro t ht
          unfold cur
          cases hany : pend.any (fun p => dstAt l p.1 == some t) with
          | true =>
            rw [cond_true]
            rw [List.any_eq_true] at hany
            obtain ⟨q, hq, hqd⟩ := hany
            have hqd : dstAt l q.1 = some t := by simpa using hqd
            refine ((hlk t ht).2 fun j hj ha e => ?_).symm
            have : j = q.1 := rf.dne j q.1 t hj (hI.inP q hq).1 e hqd
            rw [hpi] at ha
            rw [this] at ha
            have := hanc q.1 ha (hI.inP q hq).1
            rw [(hI.inP q hq).2] at this; cases this
          | false =>
            rw [cond_false]
            by_cases hex : ∃ j, j < l.length ∧ isAnc b p.1 j = true ∧ dstAt l j = some t
            · exact ((hlk t ht).1 hex).symm
            · have hno : ∀ j, j < l.length → isAnc b p.1 j = true → dstAt l j ≠ some t := fun j hj ha e => hex ⟨j, hj, ha, e⟩
              rw [(hlk t ht).2 hno]
              refine hI.base t fun j hj hjn e => ?_
              have hjp : ∀ q ∈ pend, q.1 ≠ j := fun q hq e2 => by
                have : pend.any (fun p => dstAt l p.1 == some t) = true := by
                  rw [List.any_eq_true]
                  exact ⟨q, hq, by rw [e2, e]; simp⟩
                rw [hany] at this; cases this
              rcases rf.look i l[i] hoi t ht j hj e with h1 | h1 | h1
              · exact hno j hj (by rw [hpi]; exact h1) e
              · exact hjp p hp (by rw [hpi, h1])
              · rcases hI.all j hj with h2 | ⟨q, hq, e2⟩ | h2
                · have := hI.closed j i h2 h1 hil
                  rw [hnl] at this; cases this
                · exact hjp q hq e2
                · exact hjn h2
        have hrun := (hst Lp).run (ρ' := cur l ρ0 pend ρf) (by intro c e; rw [e] at hopd; cases hopd) (by intro cs bb e; rw [e] at hopd; cases hopd) (rf.dlt i l[i] hoi) hcl hw hh
          (next := wpAnyIn (WF ro) 0 P .any l.toArray Q k (listed.setIfInBounds i true)) (Q := Q) (fun v u M w' hr hvu hw' hh' => ?_)
        · unfold wpOpIn
          simp only [List.getElem?_toArray, hoi]
          split
          · rename_i hwant; rw [if_pos hwant] at hrun; exact hrun
          · rename_i hwant; rw [if_neg hwant] at hrun; exact ⟨fun _ _ => trivial, hrun⟩
        · obtain ⟨rfl, rfl⟩ := hr
          -- it has been run
          obtain ⟨pa, pb, hpp⟩ := List.append_of_mem hp
          have hnP := hI.nP
          rw [hpp, List.map_append, List.map_cons] at hnP
          have hsplit := List.nodup_append.1 hnP
          have hne : ∀ q ∈ pa ++ pb, q.1 ≠ i := by
            intro q hq e
            rcases List.mem_append.1 hq with hq | hq
            · exact hsplit.2.2 q.1 (List.mem_map.2 ⟨q, hq, rfl⟩) p.1 List.mem_cons_self (by rw [e, hpi])
            · exact (List.nodup_cons.1 hsplit.2.1).1 (by rw [hpi, ← e]; exact List.mem_map.2 ⟨q, hq, rfl⟩)
          have hmem : ∀ q, q ∈ pa ++ pb → q ∈ pend := fun q hq => by
            rw [hpp]
            rcases List.mem_append.1 hq with hq | hq
            · exact List.mem_append_left _ hq
            · exact List.mem_append_right _ (List.mem_cons_of_mem _ hq)
          have hmem' : ∀ q, q ∈ pend → q = p ∨ q ∈ pa ++ pb := fun q hq => by
            rw [hpp] at hq
            rcases List.mem_append.1 hq with hq | hq
            · exact .inr (List.mem_append_left _ hq)
            · rcases List.mem_cons.1 hq with hq | hq
              · exact .inl hq
              · exact .inr (List.mem_append_right _ hq)
          have hcur : updo (cur l ρ0 pend ρf) (l[i]).dst v = cur l ρ0 (pa ++ pb) ρf := by
            funext t
            by_cases e : (l[i]).dst = some t
            · have h1 : (pa ++ pb).any (fun p => dstAt l p.1 == some t) = false := by
                rw [List.any_eq_false]
                intro q hq
                simp only [beq_iff_eq]
                intro e2
                exact hne q hq (rf.dne q.1 i t (hI.inP q (hmem q hq)).1 hil e2 (by rw [dstAt_of hoi]; exact e))
              rw [e]
              simp only [updo, upd_same, cur, h1]
              rw [hvu t e]
              exact (hdv t e).symm
            · rw [updo_ne e]
              unfold cur
              have : pend.any (fun p => dstAt l p.1 == some t) = (pa ++ pb).any (fun p => dstAt l p.1 == some t) := by
                have hpd : (dstAt l p.1 == some t) = false := by rw [hpi, dstAt_of hoi]; simpa using e
                rw [hpp]
                simp [hpd]
              rw [this]
          rw [hcur]
          refine ih Lq (listed.setIfInBounds i true) π (pa ++ pb) ρf Lp w' ?_ ho hob (by rw [hpp] at hk; simp at hk ⊢; omega) hw' hh'
          refine ⟨by simpa using hI.sz, ?_, ?_, ?_, hI.nπ, ?_, hclosed', hI.base, fun q hq => hI.pa q (hmem q hq), fun q hq => hI.pq q (hmem q hq)⟩
          · intro j hj
            obtain ⟨h1, h2, h3⟩ := hI.inπ j hj
            have hji : j ≠ i := fun e => h3 p hp (by rw [hpi, e])
            exact ⟨h1, by rw [getD_set hlsz, if_neg hji]; exact h2, fun q hq => h3 q (hmem q hq)⟩
          · intro q hq
            obtain ⟨h1, h2⟩ := hI.inP q (hmem q hq)
            exact ⟨h1, by rw [getD_set hlsz, if_neg (hne q hq)]; exact h2⟩
          · intro j hj
            rw [getD_set hlsz]
            by_cases e : j = i
            · left; rw [if_pos e]
            · rw [if_neg e]
              rcases hI.all j hj with h1 | ⟨q, hq, e2⟩ | h1
              · exact .inl h1
              · rcases hmem' q hq with rfl | hq'
                · exact absurd (e2.symm.trans hpi) e
                · exact .inr (.inl ⟨q, hq', e2⟩)
              · exact .inr (.inr h1)
          · rw [List.map_append, List.nodup_append]
            exact ⟨hsplit.1, (List.nodup_cons.1 hsplit.2.1).2, fun x hx y hy => hsplit.2.2 x hx y (List.mem_cons_of_mem _ hy)⟩
      rcases hI.all i hil with h1 | h1 | h1
      · rw [hnl] at h1; cases h1
      · exact pendCase π pend ρf hI ho hob (by omega) h1
      · obtain ⟨πa, πb, hπ⟩ := List.append_of_mem h1
        subst hπ
        obtain ⟨pend', ρf', hI', ho', hob', hcur, hlen⟩ := hI.pops rf πa ho hanc hob
        rw [← hcur]
        cases hl : lou.contains i with
        | false =>
          obtain ⟨v, o, _, hI2, hob2, hc2⟩ := hI'.pop rf ho' hl hob'
          rw [← hc2]
          exact pendCase πb _ _ hI2 (okOrder_tail ho') hob2 (by simp at hk ⊢; omega) ⟨_, List.mem_cons_self, rfl⟩
        | true =>
          simp only [Ob, ObR, hoi, hl, if_true] at hob'
          have hopd := rf.op i l[i] hoi
          have hcl : ∀ t ∈ (l[i]).looksAt l.toArray, cur l ρ0 pend' ρf' t = ρf' t := by
            intro t ht
            unfold cur
            have hno : pend'.any (fun p => dstAt l p.1 == some t) = false := by
             rw [List.any_eq_false]
             intro q hq
             simp only [beq_iff_eq]
             intro hqd
             have hql := (hI'.inP q hq).1
             rcases rf.look i l[i] hoi t ht q.1 hql hqd with h2 | h2 | h2
             · have := hanc q.1 h2 hql
               rw [(hI'.inP q hq).2] at this; cases this
             · exact (hI'.inπ i List.mem_cons_self).2.2 q hq h2.symm
             · rw [hI'.pa q hq i List.mem_cons_self] at h2; cases h2
            rw [hno]
            rfl
          have hrun := hob'.run (ρ' := cur l ρ0 pend' ρf') (by intro c e; rw [e] at hopd; cases hopd) (by intro cs bb e; rw [e] at hopd; cases hopd) (rf.dlt i l[i] hoi) hcl hw hh
            (next := wpAnyIn (WF ro) 0 P .any l.toArray Q k (listed.setIfInBounds i true)) (Q := Q) (fun v u M w' hr hvu hw' hh' => ?_)
          · unfold wpOpIn
            simp only [List.getElem?_toArray, hoi]
            split
            · rename_i hwant; rw [if_pos hwant] at hrun; exact hrun
            · rename_i hwant; rw [if_neg hwant] at hrun; exact ⟨fun _ _ => trivial, hrun⟩
          · obtain ⟨Lq', Lp', he, hsy, hob2⟩ := hr
            have hp0 : Lq' = Lq ∨ pend' = [] := hsy.imp id fun hs => by
              cases hpd : pend' with
              | nil => rfl
              | cons q rest =>
                exfalso
                have hq : q ∈ pend' := by rw [hpd]; exact List.mem_cons_self
                obtain ⟨hql, hqn⟩ := hI'.inP q hq
                rw [← hbm] at hs
                simp only [okSync, List.all_eq_true, List.mem_range, Bool.or_eq_true, beq_iff_eq] at hs
                rcases hs q.1 hql with h2 | h2 | h2
                · exact (hI'.inπ q.1 (List.mem_cons_of_mem _ (by simpa using h2))).2.2 q hq rfl
                · exact (hI'.inπ i List.mem_cons_self).2.2 q hq h2
                · rw [hanc q.1 h2 hql] at hqn; cases hqn
            replace hh' := hh'.ent ((Ent.refl A).star he)
            obtain ⟨hin, hπn⟩ := List.nodup_cons.1 hI'.nπ
            have hnd : ∀ q ∈ pend', ∀ t, (l[i]).dst = some t → dstAt l q.1 ≠ some t := fun q hq t e e2 =>
              (hI'.inπ i List.mem_cons_self).2.2 q hq (rf.dne q.1 i t (hI'.inP q hq).1 hil e2 (by rw [dstAt_of hoi]; exact e))
            have hcur2 : updo (cur l ρ0 pend' ρf') (l[i]).dst v = cur l ρ0 pend' (updo ρf' (l[i]).dst u) := by
              funext t
              by_cases e : (l[i]).dst = some t
              · have h2 : pend'.any (fun p => dstAt l p.1 == some t) = false := by
                  rw [List.any_eq_false]
                  intro q hq
                  simp only [beq_iff_eq]
                  exact hnd q hq t e
                rw [e]
                simp only [updo, upd_same, cur, h2]
                rw [hvu t e]
                simp
              · rw [updo_ne e]
                unfold cur
                rw [updo_ne e]
            rw [hcur2]
            refine ih Lq' (listed.setIfInBounds i true) πb pend' _ Lp' w' ?_ (okOrder_tail ho') hob2 (by simp at hk hlen ⊢; omega) hw' hh'
            refine ⟨by simpa using hI'.sz, ?_, ?_, ?_, hπn, hI'.nP, hclosed', ?_, ?_, ?_⟩
            · intro j hj
              obtain ⟨h2, h3, h4⟩ := hI'.inπ j (List.mem_cons_of_mem _ hj)
              have hji : j ≠ i := fun e => hin (by rw [← e]; exact hj)
              exact ⟨h2, by rw [getD_set hlsz, if_neg hji]; exact h3, h4⟩
            · intro q hq
              obtain ⟨h2, h3⟩ := hI'.inP q hq
              exact ⟨h2, by rw [getD_set hlsz, if_neg ((hI'.inπ i List.mem_cons_self).2.2 q hq)]; exact h3⟩
            · intro j hj
              rw [getD_set hlsz]
              by_cases e : j = i
              · left; rw [if_pos e]
              · rw [if_neg e]
                rcases hI'.all j hj with h2 | h2 | h2
                · exact .inl h2
                · exact .inr (.inl h2)
                · rcases List.mem_cons.1 h2 with h2 | h2
                  · exact absurd h2 e
                  · exact .inr (.inr h2)
            · intro t ht
              rw [updo_ne (by rw [← dstAt_of hoi]; exact ht i hil hin)]
              exact hI'.base t fun j hj hjn => ht j hj fun hjm => hjn (List.mem_cons_of_mem _ hjm)
            · intro q hq j hj
              exact hI'.pa q hq j (List.mem_cons_of_mem _ hj)
            · intro q hq o' ho2
              rcases hp0 with hp0 | hp0
              case inr => rw [hp0] at hq; cases hq
              subst hp0
              obtain ⟨h2, h3, h4⟩ := hI'.pq q hq o' ho2
              refine ⟨h2, fun d hd => ?_, fun t ht => ⟨?_, (h4 t ht).2⟩⟩
              · rw [updo_ne]
                · exact h3 d hd
                · intro e; exact hnd q hq d e (by rw [dstAt_of ho2]; exact hd)
              · rintro ⟨j, hj, ha, hd⟩
                rw [(h4 t ht).1 ⟨j, hj, ha, hd⟩]
                refine (updo_ne fun e => ?_).symm
                have : j = i := rf.dne j i t hj hil hd (by rw [dstAt_of hoi]; exact e)
                subst this
                rw [hI'.pa q hq j List.mem_cons_self] at ha; cases ha
end sound

/-- **A region that draws its order.** 'lou': the loud operations (they may change what is owned; each two of them are ordered); 'π': the order in which the walk takes all; 'Lq': what the quiet ones may read. -/
theorem g_draw {L : List SProp} {Q : Exit → Act → World → Prop} {ρ : Nat → Value} {id : Nat} {l : List Oper} (lou π : List Nat) (Lq : List SProp) {Lp : List SProp} (hm : P.follows .mixedOrders = true)
    (hok : (okRegion l n (masks l []) && okOrder lou (masks l []) π && okPerm l.length π) = true) [tk : Take L Lq Lp]
    (h : Ob w0 A ro P l n ds lou Lq (fun ρ' L' => G w0 A L' (fun w => Q .normal (act n ρ' ds) w)) π ρ Lp) :
    G w0 A L (fun w => (Code.region id l.toArray true).wpIn (WF ro) 0 P Q (act n ρ ds) w) := by
  simp only [Bool.and_eq_true] at hok
  obtain ⟨⟨h1, h2⟩, h3⟩ := hok
  refine G.perm tk.perm fun w hw hh => ?_
  refine wpIn_region_any hm ?_
  simp only [okPerm, Bool.and_eq_true, beq_iff_eq, List.all_eq_true, List.mem_range] at h3
  obtain ⟨⟨hlen, hall⟩, hnd, hlt⟩ := h3
  have hmem : ∀ i, i < l.length → i ∈ π := fun i hi => by simpa using hall i hi
  have hin : ∀ j ∈ π, j < l.length := fun j hj => by have := hlt j hj; rwa [Nat.blt_eq] at this
  have hrep : ∀ j, (Array.replicate l.toArray.size false).getD j false = false := fun j => by
    simp only [Array.getD_eq_getD_getElem?, Array.getElem?_replicate]
    split <;> rfl
  have := draw_sound (ro := ro) (P := P) (ρ0 := ρ) (RegFacts.of h1) rfl (Q := Q) (fun _ _ x => x) l.toArray.size Lq (Array.replicate l.toArray.size false) π [] ρ Lp w.drew ?_ h2 h (by simp [hlen]) (hw.trans (.drew w)) (hh.le (Le.refl _))
  · have e : cur l ρ [] ρ = ρ := by funext t; simp [cur]
    rw [e] at this
    exact this
  · refine ⟨by simp, ?_, by simp, ?_, nodup_of hnd, by simp, ?_, ?_, by simp, by simp⟩
    · intro j hj
      exact ⟨hin j hj, hrep j, by simp⟩
    · intro j hj
      exact .inr (.inr (hmem j hj))
    · intro i j hi
      rw [hrep i] at hi; cases hi
    · intro t _
      rfl

instance Take.app {L K1 K2 M1 M2 : List SProp} [h : Take L K1 M1] [k : Take M1 K2 M2] : Take L (K1 ++ K2) M2 :=
  ⟨by rw [List.append_assoc]; exact h.perm.trans (k.perm.append_left K1)⟩
section
variable {l : List Oper} {lou : List Nat} {Lq : List SProp} {K : (Nat → Value) → List SProp → Prop} {i : Nat} {π : List Nat} {ρ : Nat → Value} {Lp : List SProp} {o : Oper}
theorem ob_nil (h : K ρ (Lq ++ Lp)) : Ob w0 A ro P l n ds lou Lq K [] ρ Lp := h
theorem ob_q (hi : l[i]? = some o) (hl : lou.contains i = false) (h : ∃ v, (∀ X, OStep w0 A ro P l.toArray n ds ρ (Lq ++ X) o (fun u M => u = v ∧ M = Lq ++ X)) ∧ Ob w0 A ro P l n ds lou Lq K π (updo ρ o.dst v) Lp) :
    Ob w0 A ro P l n ds lou Lq K (i :: π) ρ Lp := by
  simp only [Ob, ObR, hi, hl]
  exact h
theorem ob_fin {M Lq Lp : List SProp} [t : Take M Lq Lp] : Ent (sl M) (sl (Lq ++ Lp)) := sl_perm t.perm
/-- A loud operation. -/
theorem ob_l (hi : l[i]? = some o) (hl : lou.contains i = true) (h : OStep w0 A ro P l.toArray n ds ρ (Lq ++ Lp) o (fun v M => ∃ Lp', Ent (sl M) (sl (Lq ++ Lp')) ∧ Ob w0 A ro P l n ds lou Lq K π (updo ρ o.dst v) Lp')) :
    Ob w0 A ro P l n ds lou Lq K (i :: π) ρ Lp := by
  simp only [Ob, ObR, hi, hl, if_true]
  exact fun Q hn => h Q fun v M ⟨Lp', h1, h2⟩ => hn v M ⟨Lq, Lp', h1, .inl rfl, h2⟩
/-- A loud operation that all that was walked ahead of it are ancestors of: from here on other things may be read. -/
theorem ob_s (Lq' : List SProp) (hi : l[i]? = some o) (hl : lou.contains i = true) (hs : okSync (masks l []) l.length i π = true)
    (h : OStep w0 A ro P l.toArray n ds ρ (Lq ++ Lp) o (fun v M => ∃ Lp', Ent (sl M) (sl (Lq' ++ Lp')) ∧ Ob w0 A ro P l n ds lou Lq' K π (updo ρ o.dst v) Lp')) :
    Ob w0 A ro P l n ds lou Lq K (i :: π) ρ Lp := by
  simp only [Ob, ObR, hi, hl, if_true]
  exact fun Q hn => h Q fun v M ⟨Lp', h1, h2⟩ => hn v M ⟨Lq', Lp', h1, .inr hs, h2⟩
end
end
end Go.Sl
/- Slices: read by everybody for ever, or owned; append. Plain library, no program in sight. -/
namespace Go.Sl
open Go Go.Proofs Go.RowKit

/-! ### What stays may be had twice -/
class Pers (X : SProp) : Prop where
  on : ∀ B h, X.on B h → X.on B hnil
instance {b : Nat} {o : Obj} : Pers (pblk b o) := ⟨fun _ _ x => x⟩
instance {p : Prop} : Pers (pu p) := ⟨fun _ _ x => x⟩
theorem Pers.dup {X : SProp} [p : Pers X] (C : SProp) : Ent (star X C) (star X (star X C)) :=
  fun B _ ⟨_, h2, _, _, m2, x, y⟩ => ⟨hnil, h2, (Dj.nil _).symm, .nil _, m2, p.on B _ x, hnil, h2, (Dj.nil _).symm, .nil _, .refl _, p.on B _ x, y⟩
class HasP (L : List SProp) (X : SProp) : Prop where
  ent : Ent (sl L) (star X (sl L))
instance (priority := low) HasP.tail {Y X : SProp} {L : List SProp} [h : HasP L X] : HasP (Y :: L) X := ⟨((Ent.refl Y).star h.ent).trans (Ent.swap _ _ _)⟩
instance HasP.head {X : SProp} {L : List SProp} [Pers X] : HasP (X :: L) X := ⟨Pers.dup _⟩
instance HasP.appl {X : SProp} {L M : List SProp} [h : HasP L X] : HasP (L ++ M) X :=
  ⟨(sl_append_to L M).trans (((h.ent.star (Ent.refl _)).trans (Ent.assoc _ _ _)).trans ((Ent.refl X).star (sl_append_of L M)))⟩
instance (priority := low) HasP.appr {X : SProp} {L M : List SProp} [h : HasP M X] : HasP (L ++ M) X :=
  ⟨(sl_append_to L M).trans ((((Ent.refl _).star h.ent).trans (Ent.swap _ _ _)).trans ((Ent.refl X).star (sl_append_of L M)))⟩
class TakeP (L : List SProp) (K : List SProp) : Prop where
  ent : Ent (sl L) (star (sl K) (sl L))
instance TakeP.nil {L : List SProp} : TakeP L [] := ⟨Ent.emp_left _⟩
instance TakeP.cons {X : SProp} {L K : List SProp} [h : HasP L X] [k : TakeP L K] : TakeP L (X :: K) := ⟨h.ent.trans (((Ent.refl X).star k.ent).trans (Ent.assoc' _ _ _))⟩

/-! ### Reading a row of cells -/
def cellH (h : Hp) (b k : Nat) : Option Value := match h b with
  | some (.cells c _ _) => c[k]?
  | _ => none
theorem cellH_le {h h' : Hp} (l : Le h h') {b k : Nat} {v : Value} (e : cellH h b k = some v) : cellH h' b k = some v := by
  unfold cellH at e ⊢
  cases hb : h b with
  | none => rw [hb] at e; cases e
  | some o => rw [hb] at e; rw [l _ _ hb]; exact e
theorem cell_of_cellH {w : World} {b k : Nat} {v : Value} (e : cellH (hp w) b k = some v) : w.cell? ⟨b, k, none⟩ = some v := by
  unfold cellH hp at e
  unfold World.cell?
  cases hb : w.heap[b]? with
  | none => rw [hb] at e; cases e
  | some o =>
    rw [hb] at e
    cases o <;> simp_all
/-- The slice at A reads as ys, each of them sz cells. -/
def rdE {α : Type} (A : Option Addr) (enc : α → List Value) (sz : Nat) (ys : List α) (h : Hp) : Prop :=
  ∀ i y, ys[i]? = some y → ∃ b k, A = some ⟨b, k, none⟩ ∧ ∀ j u, (enc y)[j]? = some u → cellH h b (k + (i * sz + j)) = some u
theorem rdE.le {α : Type} {A : Option Addr} {enc : α → List Value} {sz : Nat} {ys : List α} {h h' : Hp} (r : rdE A enc sz ys h) (l : Le h h') : rdE A enc sz ys h' := fun i y hy =>
  let ⟨b, k, e, f⟩ := r i y hy; ⟨b, k, e, fun j u hu => cellH_le l (f j u hu)⟩
/-- Read by everybody for ever. -/
def psl {α : Type} (enc : α → List Value) (sz : Nat) (A : Option Addr) (ys : List α) : SProp := ⟨fun B _ => rdE A enc sz ys B, fun l _ r => r.le l⟩
/-- Owned: a row of its own, with room for c. -/
def osl {α : Type} (e : TypeId) (enc : α → List Value) (sz : Nat) (A : Option Addr) (c : Nat) (ys : List α) : SProp where
  on _ h := (A = none ∧ ys = [] ∧ c = 0) ∨ ∃ g cur, A = some ⟨g, 0, none⟩ ∧ h g = some (.cells cur e (0, 0)) ∧ ys.length ≤ c ∧ c ≤ maxLen ∧ cur.size = c * sz ∧ cur.toList.take (ys.length * sz) = ys.flatMap enc
  mono := fun _ m x => x.imp id fun ⟨g, cur, a, b, r⟩ => ⟨g, cur, a, m _ _ b, r⟩
instance {α : Type} {enc : α → List Value} {sz : Nat} {A : Option Addr} {ys : List α} : Pers (psl enc sz A ys) := ⟨fun _ _ x => x⟩

/-- All of a type's values take sz cells. -/
class EncLen {α : Type} (enc : α → List Value) (sz : outParam Nat) : Prop where
  len : ∀ y, (enc y).length = sz
  one : ∀ y, ∀ u ∈ enc y, u.oneCell' = true
theorem flat_len {α : Type} {enc : α → List Value} {sz : Nat} [e : EncLen enc sz] (ys : List α) : (ys.flatMap enc).length = ys.length * sz := by
  induction ys with
  | nil => simp
  | cons y ys ih => simp only [List.flatMap_cons, List.length_append, e.len, ih, List.length_cons, Nat.add_mul, Nat.one_mul]; omega
theorem flat_get {α : Type} {enc : α → List Value} {sz : Nat} [e : EncLen enc sz] : ∀ (ys : List α) (i j : Nat) (y : α) (u : Value), ys[i]? = some y → (enc y)[j]? = some u → (ys.flatMap enc)[i * sz + j]? = some u
  | [], i, j, y, u, h, _ => by simp at h
  | x :: ys, 0, j, y, u, h, hu => by
    simp at h
    subst h
    have hj : j < (enc x).length := (List.getElem?_eq_some_iff.1 hu).1
    simp only [List.flatMap_cons, Nat.zero_mul, Nat.zero_add]
    rw [List.getElem?_append_left hj]
    exact hu
  | x :: ys, i + 1, j, y, u, h, hu => by
    have ih := flat_get ys i j y u (by simpa using h) hu
    simp only [List.flatMap_cons]
    rw [List.getElem?_append_right (by rw [e.len, Nat.add_mul]; omega), e.len]
    have : (i + 1) * sz + j - sz = i * sz + j := by rw [Nat.add_mul]; omega
    rw [this]
    exact ih
theorem osl_rd {α : Type} {e : TypeId} {enc : α → List Value} {sz : Nat} [en : EncLen enc sz] {A : Option Addr} {c : Nat} {ys : List α} {B h : Hp} (x : (osl e enc sz A c ys).on B h) : rdE A enc sz ys h := by
  intro i y hy
  rcases x with ⟨_, rfl, _⟩ | ⟨g, cur, hA, hg, hl, hc, hs, ht⟩
  · simp at hy
  · refine ⟨g, 0, hA, fun j u hu => ?_⟩
    have h1 := flat_get ys i j y u hy hu
    rw [← ht] at h1
    have h2 : cur[i * sz + j]? = some u := by
      rw [List.getElem?_take] at h1
      split at h1
      · simpa using h1
      · cases h1
    simp [cellH, hg, h2]
class HasRd (L : List SProp) (A : Option Addr) {α : outParam Type} (enc : outParam (α → List Value)) (sz : outParam Nat) (ys : outParam (List α)) : Prop where
  sees : Sees (sl L) (rdE A enc sz ys)
instance (priority := low) HasRd.tail {X : SProp} {L : List SProp} {A : Option Addr} {α : Type} {enc : α → List Value} {sz : Nat} {ys : List α} [h : HasRd L A enc sz ys] : HasRd (X :: L) A enc sz ys := ⟨h.sees.right⟩
instance HasRd.head {L : List SProp} {A : Option Addr} {α : Type} {enc : α → List Value} {sz : Nat} {ys : List α} : HasRd (psl enc sz A ys :: L) A enc sz ys :=
  ⟨Sees.left fun _ ⟨_, _, _, l, _, x⟩ => rdE.le x l⟩
instance HasRd.ohead {L : List SProp} {A : Option Addr} {α : Type} {e : TypeId} {enc : α → List Value} {sz c : Nat} {ys : List α} [EncLen enc sz] : HasRd (osl e enc sz A c ys :: L) A enc sz ys :=
  ⟨Sees.left fun _ ⟨_, _, _, _, m, x⟩ => (osl_rd x).le m⟩
instance HasRd.appl {L X : List SProp} {A : Option Addr} {α : Type} {enc : α → List Value} {sz : Nat} {ys : List α} [h : HasRd L A enc sz ys] : HasRd (L ++ X) A enc sz ys := ⟨h.sees.left.ent (sl_append_to L X)⟩
instance (priority := low) HasRd.appr {L X : List SProp} {A : Option Addr} {α : Type} {enc : α → List Value} {sz : Nat} {ys : List α} [h : HasRd X A enc sz ys] : HasRd (L ++ X) A enc sz ys := ⟨h.sees.right.ent (sl_append_to L X)⟩

/-- The address of a slice's cell j. -/
def padr (A : Option Addr) (j : Nat) : Value := .pointer (A.map (·.add j))
theorem padr_some (b k j : Nat) : padr (some ⟨b, k, none⟩) j = .pointer (some ⟨b, k + j, none⟩) := by simp [padr, add_off]

section
variable {w0 : World} {A : SProp} {L : List SProp} {ro : Option Nat} {P : Program} {Q : Exit → Act → World → Prop} {all : Array Oper} {os : List Oper} {n : Nat} {ρ : Nat → Value} {ds : List Nat}
variable {d : Option Tmp} {ty : TypeId} {pos : String} {af : Array Edge} {x y : Operand}
theorem G.dup (X : SProp) {Φ : World → Prop} [h : HasP L X] (k : G w0 A (X :: L) Φ) : G w0 A L Φ := G.ent (L := L) (L' := X :: L) h.ent k
section
variable {α : Type} {enc : α → List Value} {sz : Nat} {ys : List α} {S : Option Addr} {i : Nat} {z : α}
theorem o_indexR {t e : TypeId} {len cap sz' : Nat} {kd : IntKind} {m : Int} (hx : ev n ρ x = .slice S len cap) (hy : ev n ρ y = .int kd m) (hm : m = (i : Int)) [hr : HasRd L S enc sz ys] [st : SlTy P t e sz'] (hi : i < ys.length) (hl : ys.length = len) (hs : sz' = sz)
    (h : G w0 A L (fun w => runL ro P all Q os (act n (updo ρ d (padr S (i * sz))) ds) w)) :
    G w0 A L (fun w => runL ro P all Q ({ dst := d, op := .indexAddr t x y, type := ty, pos := pos, after := af, guard := none } :: os) (act n ρ ds) w) :=
  o_val rfl (by intro c e; cases e) (fun w _ hh => by
    subst hs
    obtain ⟨b, k, rfl, _⟩ := hr.sees.right w hh i ys[i] (List.getElem?_eq_getElem hi)
    rw [padr_some]
    simp only [execOp]
    refine run_v ?_
    rw [hx, hy]
    have h1 : (0 : Int) ≤ m ∧ m < (len : Int) := by omega
    have h2 : m.toNat = i := by omega
    simp [Instr.indexAt, asIntOf, run_underlying st.ty, h1.1, h1.2, h2, st.size, add_off]) h
theorem o_fieldR {t : TypeId} {f off j : Nat} (hx : ev n ρ x = padr S j) [hr : HasRd L S enc sz ys] [fo : FieldOff P t f off] (hne : 0 < ys.length)
    (h : G w0 A L (fun w => runL ro P all Q os (act n (updo ρ d (padr S (j + off))) ds) w)) :
    G w0 A L (fun w => runL ro P all Q ({ dst := d, op := .fieldAddr t x f, type := ty, pos := pos, after := af, guard := none } :: os) (act n ρ ds) w) :=
  o_val rfl (by intro c e; cases e) (fun w _ hh => by
    obtain ⟨b, k, rfl, _⟩ := hr.sees.right w hh 0 ys[0] (List.getElem?_eq_getElem hne)
    rw [padr_some] at hx ⊢
    simp only [execOp]
    refine run_v ?_
    rw [hx, ← Nat.add_assoc]
    exact fo.run b (k + j) w) h
theorem run_loadR {t : TypeId} {b k o s : Nat} {w : World} [ta : TyA P t s] {vs : List Value} (hl : vs.length = s) (hc : ∀ j u, vs[j]? = some u → cellH (hp w) b (k + (o + j)) = some u) : (loadVar t ⟨b, k + o, none⟩).run P w = .ok (.agg vs.toArray) w := by
  have := run_loadCells_list (P := P) w ⟨b, k + o, none⟩ vs (fun j u hu => by
    rw [add_off, Nat.add_assoc]
    exact cell_of_cellH (hc j u hu))
  rw [hl] at this
  simp [loadVar, ta.agg, ta.size, this]
/-- A whole element. -/
theorem o_loadE {t : TypeId} {sz' : Nat} (hx : ev n ρ x = padr S (i * sz)) [hr : HasRd L S enc sz ys] [el : EncLen enc sz] [ta : TyA P t sz'] (hs : sz' = sz) (hz : ys[i]? = some z)
    (h : G w0 A L (fun w => runL ro P all Q os (act n (updo ρ d (.agg (enc z).toArray)) ds) w)) :
    G w0 A L (fun w => runL ro P all Q ({ dst := d, op := .load t x, type := ty, pos := pos, after := af, guard := none } :: os) (act n ρ ds) w) :=
  o_val rfl (by intro c e; cases e) (fun w _ hh => by
    obtain ⟨b, k, rfl, hc⟩ := hr.sees.right w hh i z hz
    rw [padr_some] at hx
    simp only [execOp]
    refine run_v ?_
    rw [hx]
    simp [Instr.loadAt, Instr.sureAddr, run_loadR (P := P) (t := t) (vs := enc z) (by rw [el.len, hs]) hc]) h
/-- A part of an element that is an aggregate. -/
theorem o_loadEN {t : TypeId} {off s : Nat} (hx : ev n ρ x = padr S (i * sz + off)) [hr : HasRd L S enc sz ys] [ta : TyA P t s] (hz : ys[i]? = some z) {v : Value} (hb : Nat.ble (off + s) (enc z).length = true) (hv : .agg (((enc z).drop off).take s).toArray = v)
    (h : G w0 A L (fun w => runL ro P all Q os (act n (updo ρ d v) ds) w)) :
    G w0 A L (fun w => runL ro P all Q ({ dst := d, op := .load t x, type := ty, pos := pos, after := af, guard := none } :: os) (act n ρ ds) w) :=
  o_val rfl (by intro c e; cases e) (fun w _ hh => by
    obtain ⟨b, k, rfl, hc⟩ := hr.sees.right w hh i z hz
    rw [padr_some] at hx
    simp only [execOp]
    refine run_v ?_
    rw [hx, ← hv]
    have hb' := Nat.le_of_ble_eq_true hb
    have := run_loadR (P := P) (t := t) (b := b) (k := k) (o := i * sz + off) (w := w) (vs := ((enc z).drop off).take s) (by simp; omega) (fun j u hu => by
      rw [List.getElem?_take] at hu
      split at hu
      · rw [List.getElem?_drop] at hu
        have := hc (off + j) u hu
        rwa [show i * sz + off + j = i * sz + (off + j) from by omega]
      · cases hu)
    simp [Instr.loadAt, Instr.sureAddr, this]) h
/-- A part of an element that is one cell. -/
theorem o_loadE1 {t : TypeId} {off : Nat} {v : Value} (hx : ev n ρ x = padr S (i * sz + off)) [hr : HasRd L S enc sz ys] [ts : TyS P t] (hz : ys[i]? = some z) (hv : (enc z)[off]? = some v)
    (h : G w0 A L (fun w => runL ro P all Q os (act n (updo ρ d v) ds) w)) :
    G w0 A L (fun w => runL ro P all Q ({ dst := d, op := .load t x, type := ty, pos := pos, after := af, guard := none } :: os) (act n ρ ds) w) :=
  o_val rfl (by intro c e; cases e) (fun w _ hh => by
    obtain ⟨b, k, rfl, hc⟩ := hr.sees.right w hh i z hz
    rw [padr_some] at hx
    simp only [execOp]
    refine run_v ?_
    rw [hx]
    simp [Instr.loadAt, Instr.sureAddr, loadVar, ts.agg, run_load, cell_of_cellH (hc off v hv)]) h
/-- An element that is one cell. -/
theorem o_loadE0 {t : TypeId} {v : Value} (hx : ev n ρ x = padr S (i * sz)) [hr : HasRd L S enc sz ys] [ts : TyS P t] (hz : ys[i]? = some z) (hv : (enc z)[0]? = some v)
    (h : G w0 A L (fun w => runL ro P all Q os (act n (updo ρ d v) ds) w)) :
    G w0 A L (fun w => runL ro P all Q ({ dst := d, op := .load t x, type := ty, pos := pos, after := af, guard := none } :: os) (act n ρ ds) w) :=
  o_loadE1 (off := 0) hx hz hv h
theorem o_boxc {t : TypeId} {v : Value} (cs : Array Value) (hx : ev n ρ x = v) (hc : v.cells = cs) (h : ∀ b, G w0 A (cellsB b cs t :: L) (fun w => runL ro P all Q os (act n (updo ρ d (.pointer (some ⟨b, 0, none⟩))) ds) w)) :
    G w0 A L (fun w => runL ro P all Q ({ dst := d, op := .box t x, type := ty, pos := pos, after := af, guard := none } :: os) (act n ρ ds) w) := o_box hx fun b => by rw [hc]; exact h b
end
/-! ### Calls by contracts over what stays -/
theorem o_callp {f : FuncId} {args : List Operand} {tys : Array TypeId} {vs : List Value} {cal : Operand} {K : List SProp} {R : Value → List SProp → Prop} [en : En P f] (sp : Ctr P f vs K R)
    (hf : ev n ρ cal = .func (.func f) #[] #[]) (ha : args.map (ev n ρ) = vs) [t : TakeP L K]
    (h : ∀ v L', R v L' → G w0 A (L' ++ L) (fun w => runL ro P all Q os (act n (updo ρ d v) ds) w)) :
    G w0 A L (fun w => runL ro P all Q ({ dst := d, op := .call { callee := .value cal, args := args.toArray, argTypes := tys }, type := ty, pos := pos, after := af, guard := none } :: os) (act n ρ ds) w) := by
  refine G.ent (L' := K ++ L) (t.ent.trans (sl_append_of K L)) ?_
  exact o_call sp hf ha (t := ⟨.refl _⟩) h
/-- Both: what stays (Kp) and what is handed over (Kc). -/
theorem o_callx {f : FuncId} {args : List Operand} {tys : Array TypeId} {vs : List Value} {cal : Operand} (Kp Kc : List SProp) {M : List SProp} {R : Value → List SProp → Prop} [en : En P f] (sp : Ctr P f vs (Kp ++ Kc) R)
    (hf : ev n ρ cal = .func (.func f) #[] #[]) (ha : args.map (ev n ρ) = vs) [tp : TakeP L Kp] [t : Take L Kc M]
    (h : ∀ v L', R v L' → G w0 A (L' ++ M) (fun w => runL ro P all Q os (act n (updo ρ d v) ds) w)) :
    G w0 A L (fun w => runL ro P all Q ({ dst := d, op := .call { callee := .value cal, args := args.toArray, argTypes := tys }, type := ty, pos := pos, after := af, guard := none } :: os) (act n ρ ds) w) := by
  refine G.ent (L' := Kp ++ L) (tp.ent.trans (sl_append_of Kp L)) ?_
  exact o_call sp hf ha (t := ⟨by rw [List.append_assoc]; exact t.perm.append_left Kp⟩) h
end

/-! ### append -/
/-- What a type's row of the table tells an append. -/
class ApTy (P : Program) (t : TypeId) (e sz bytes : outParam Nat) : Prop where
  ex : ∃ i z, P.underlying t = some (.slice e) ∧ P.info? e = some i ∧ i.zero = some z ∧ i.size = sz ∧ i.bytes = bytes ∧ z.cells.size = sz
  pos : 0 < sz
theorem ApTy.of {P : Program} {t : TypeId} {e sz bytes : Nat} (ht : P.underlying t = some (.slice e)) (hi : (P.info? e).map (fun i => (i.size, i.bytes, i.zero.map fun z => z.cells.size)) = some (sz, bytes, some sz)) (hp : 0 < sz) : ApTy P t e sz bytes := by
  refine ⟨?_, hp⟩
  cases h : P.info? e with
  | none => rw [h] at hi; cases hi
  | some i =>
    rw [h] at hi
    cases hz : i.zero with
    | none => rw [Option.map_some, hz] at hi; cases hi
    | some z =>
      rw [Option.map_some, hz] at hi
      simp only [Option.map_some, Option.some.injEq, Prod.mk.injEq] at hi
      exact ⟨i, z, ht, rfl, hz, hi.1, hi.2.1, hi.2.2⟩
section
variable {w0 : World} {A : SProp} {L : List SProp} {ro : Option Nat} {P : Program} {Q : Exit → Act → World → Prop} {all : Array Oper} {os : List Oper} {n : Nat} {ρ : Nat → Value} {ds : List Nat}
variable {d : Option Tmp} {ty : TypeId} {pos : String} {af : Array Edge} {x y : Operand}
variable {α : Type} {enc : α → List Value} {sz : Nat} {xs ys : List α} {S S' : Option Addr}
theorem owns_of {e : TypeId} [en : EncLen enc sz] {c : Nat} {C : SProp} {w : World} (h : holds (star (osl e enc sz S c xs) C) w) : w.ownsRow 0 e sz (.slice S xs.length c) xs.length (xs.flatMap enc) := by
  obtain ⟨B, k, d, l, m, k1, k2, d12, l1, l2, x, y⟩ := h
  refine ⟨flat_len xs, ?_⟩
  rcases x with ⟨rfl, rfl, rfl⟩ | ⟨g, cur, rfl, hg, hl, hc, hs, ht⟩
  · exact .inl ⟨rfl, rfl⟩
  · exact .inr ⟨g, c, cur, rfl, Nat.zero_le _, m _ _ (l1 _ _ hg), hl, hc, hs, ht⟩
theorem osl_of_owns {e : TypeId} {zs : List α} {v : Value} {w : World} (ho : w.ownsRow 0 e sz v zs.length (zs.flatMap enc)) : ∃ S c, v = .slice S zs.length c ∧
    ((S = none ∧ zs = [] ∧ c = 0) ∨ ∃ g cur, S = some ⟨g, 0, none⟩ ∧ hp w g = some (.cells cur e (0, 0)) ∧ zs.length ≤ c ∧ c ≤ maxLen ∧ cur.size = c * sz ∧ cur.toList.take (zs.length * sz) = zs.flatMap enc) := by
  rcases ho.2 with ⟨rfl, h0⟩ | ⟨g, cap, cur, rfl, _, hg, h1, h2, h3, h4⟩
  · exact ⟨none, 0, by rw [h0], .inl ⟨rfl, List.eq_nil_of_length_eq_zero h0, rfl⟩⟩
  · exact ⟨some ⟨g, 0, none⟩, cap, rfl, .inr ⟨g, cur, rfl, hg, h1, h2, h3, h4⟩⟩
/-- An owned row grown by a step that turns its own block alone. -/
theorem holds.grown {e : TypeId} {c : Nat} {zs : List α} {v' : Value} {C : SProp} {w w' : World} (h : holds (star (osl e enc sz S c xs) C) w) (ho : w'.ownsRow 0 e sz v' zs.length (zs.flatMap enc))
    (hg : w.grownBy w' (Value.ownBlock (.slice S xs.length c))) (hb : v'.ownBlock = Value.ownBlock (.slice S xs.length c) ∨ v'.ownBlock = some w.heap.size) :
    ∃ S' c', v' = .slice S' zs.length c' ∧ holds (star (osl e enc sz S' c' zs) C) w' := by
  obtain ⟨S', c', rfl, hx⟩ := osl_of_owns (enc := enc) ho
  refine ⟨S', c', rfl, ?_⟩
  obtain ⟨B, k, d, l, m, k1, k2, d12, l1, l2, x, y⟩ := h
  -- what is not the row's own block lies as it lay
  have far : ∀ p : Hp, Le p (hp w) → (∀ g, (Value.ownBlock (.slice S xs.length c)) = some g → p g = none) → Le p (hp w') := fun p lp hn b o hpb => by
    have hbw := lp _ _ hpb
    have hne : some b ≠ Value.ownBlock (.slice S xs.length c) := fun e => by rw [hn b e.symm] at hpb; cases hpb
    exact (hg.block b (hp_in hbw) hne).trans hbw
  have hown : ∀ g, Value.ownBlock (.slice S xs.length c) = some g → ∃ o, k1 g = some o := fun g e => by
    rcases x with ⟨rfl, _, _⟩ | ⟨g', cur, rfl, hg', _⟩
    · simp [Value.ownBlock] at e
    · have : g' = g := by simpa [Value.ownBlock] using e
      subst this
      exact ⟨_, hg'⟩
  have hBn : ∀ g, Value.ownBlock (.slice S xs.length c) = some g → B g = none := fun g e => by
    obtain ⟨o, ho⟩ := hown g e
    exact (d g).resolve_right (by rw [l1 _ _ ho]; simp)
  have h2n : ∀ g, Value.ownBlock (.slice S xs.length c) = some g → k2 g = none := fun g e => by
    obtain ⟨o, ho⟩ := hown g e
    exact (d12 g).resolve_left (by rw [ho]; simp)
  have lB := far B l hBn
  have l2' := far k2 (l2.trans m) h2n
  rcases hx with ⟨rfl, hz, rfl⟩ | ⟨g, cur, rfl, hgw, hr⟩
  · exact ⟨B, k2, d.le_right l2, lB, l2', hnil, k2, (Dj.nil _).symm, .nil _, .refl _, .inl ⟨rfl, hz, rfl⟩, y⟩
  · -- its block is none of the others'
    have hfree : ∀ p : Hp, Le p (hp w) → (∀ g, (Value.ownBlock (.slice S xs.length c)) = some g → p g = none) → p g = none := fun p lp hn => by
      rcases hb with e | e
      · exact hn g (by rw [← e]; rfl)
      · have : g = w.heap.size := by simpa [Value.ownBlock] using e
        subst this
        cases hpp : p w.heap.size with
        | none => rfl
        | some o => have := lp _ _ hpp; rw [hp_out w (Nat.le_refl _)] at this; cases this
    have d1 : ∀ p : Hp, p g = none → Dj p (one g (.cells cur e (0, 0))) := fun p hpn i => by
      by_cases e : i = g
      · subst e; exact .inl hpn
      · right; simp [one, e]
    have hBg := hfree B l hBn
    have h2g := hfree k2 (l2.trans m) h2n
    refine ⟨B, un k2 (one g (.cells cur e (0, 0))), Dj.un (d.le_right l2) (d1 B hBg), lB, Le.un l2' (.one hgw), one g (.cells cur e (0, 0)), k2, (d1 k2 h2g).symm, .un_right (d1 k2 h2g), .un_left _ _, ?_, y⟩
    exact .inr ⟨g, cur, rfl, one_same _ _, hr⟩
theorem run_append_nil {t e : TypeId} {s b : Nat} [at_ : ApTy P t e s b] {w : World} (base : Nat) (v : Value) (k : Nat) (cs : List Value) (ho : w.ownsRow base e s v k cs) (c : Nat) : (Builtin.append_ #[t, t] ty #[v, .slice none 0 c]).run P w = .ok v w := by
  obtain ⟨i, z, ht, hi, hz, h1, h2, h3⟩ := at_.ex
  rcases ho.2 with ⟨rfl, rfl⟩ | ⟨g, cap, cur, rfl, _, _, hnc, _⟩
  · simp [Builtin.append_, run_underlying ht, sizeOf, typeInfo, hi, Builtin.lenOf, Builtin.firstCells]
  · simp [Builtin.append_, run_underlying ht, sizeOf, typeInfo, hi, Builtin.lenOf, Builtin.firstCells, hnc, storeCells]
/-- 'append(s, t...)': s owned, t read. -/
theorem o_append {t e : TypeId} {s bytes c c2 len : Nat} {tys : Array TypeId} {M : List SProp} (hx : ev n ρ x = .slice S xs.length c) (hy : ev n ρ y = .slice S' len c2) (ht : tys = #[t, t]) [at_ : ApTy P t e s bytes] [en : EncLen enc sz] (hs : s = sz)
    [hr : HasRd L S' enc sz ys] (hlen : ys.length = len) (hn0 : len = 0 → S' = none ∨ True) [tk : Take1 L (osl e enc sz S c xs) M] (hmax : xs.length + ys.length ≤ maxLen) (hbytes : (xs.length + ys.length) * bytes ≤ 140737488355328)
    (h : ∀ S2 c3, G w0 A (osl e enc sz S2 c3 (xs ++ ys) :: M) (fun w => runL ro P all Q os (act n (updo ρ d (.slice S2 (xs.length + ys.length) c3)) ds) w)) :
    G w0 A L (fun w => runL ro P all Q ({ dst := d, op := .call { callee := .builtin .append, args := #[x, y], argTypes := tys }, type := ty, pos := pos, after := af, guard := none } :: os) (act n ρ ds) w) := by
  subst ht hs hlen
  refine o_run rfl fun w hw hh => ?_
  refine ⟨fun _ _ => trivial, ?_⟩
  rw [Oper.semAt_eq _ _ _ (by intro c e; cases e), act_eval]
  have hh1 : holds (star (osl e enc s S c xs) (star A (sl M))) w := (hh.ent ((Ent.refl A).star (sl_perm tk.perm))).ent (Ent.swap _ _ _)
  have hown := owns_of hh1
  have hrd := hr.sees.right w hh
  have hrun : ∃ v' w', (Builtin.append_ #[t, t] ty #[.slice S xs.length c, .slice S' ys.length c2]).run P w = .ok v' w' ∧ w'.ownsRow 0 e s v' (xs.length + ys.length) (xs.flatMap enc ++ ys.flatMap enc) ∧ w.grownBy w' (Value.ownBlock (.slice S xs.length c)) ∧
      (v'.ownBlock = Value.ownBlock (.slice S xs.length c) ∨ v'.ownBlock = some w.heap.size) := by
    obtain ⟨i, z, ht, hi, hz, h1, h2, h3⟩ := at_.ex
    have hone : ∀ u ∈ ys.flatMap enc, u.oneCell' = true := fun u hu => by
      obtain ⟨q, _, hq⟩ := List.mem_flatMap.1 hu
      exact en.one q u hq
    cases S' with
    | none =>
      have h0 : ys = [] := by
        cases ys with
        | nil => rfl
        | cons q qs =>
          obtain ⟨b, k, e, _⟩ := hrd 0 q rfl
          cases e
      subst h0
      exact ⟨_, w, run_append_nil 0 _ _ _ hown c2, by simpa using hown, World.grownBy.refl w _, .inl rfl⟩
    | some a =>
      obtain ⟨v', w', hrun, h4, h5, _, h6⟩ := run_append_own_at (P := P) w 0 t ty e i z s bytes ht hi hz h1 h2 h3 at_.pos _ _ _ hown a ys.length c2 (ys.flatMap enc) (flat_len ys) (fun j u hu => by
        -- which element, and which cell of it
        have hj : j < ys.length * s := by rw [← flat_len (enc := enc) ys]; exact (List.getElem?_eq_some_iff.1 hu).1
        have hsp : 0 < s := at_.pos
        have hq : j / s < ys.length := by rw [Nat.div_lt_iff_lt_mul hsp]; exact hj
        have hjm : j / s * s + j % s = j := by rw [Nat.mul_comm]; exact Nat.div_add_mod j s
        obtain ⟨b, k, ea, hc⟩ := hrd (j / s) ys[j / s] (List.getElem?_eq_getElem hq)
        cases ea
        have hm : j % s < (enc ys[j / s]).length := by rw [en.len]; exact Nat.mod_lt _ hsp
        have hu' := flat_get ys (j / s) (j % s) ys[j / s] _ (List.getElem?_eq_getElem hq) (List.getElem?_eq_getElem hm)
        rw [hjm, hu] at hu'
        have := hc (j % s) u (by rw [List.getElem?_eq_getElem hm]; exact hu'.symm)
        rw [hjm] at this
        rw [add_off]
        exact cell_of_cellH this) hone hmax hbytes (Nat.zero_le _)
      exact ⟨v', w', hrun, h4, h5, h6⟩
  obtain ⟨v', w', hrun, ho', hg, hb⟩ := hrun
  rw [← List.flatMap_append, ← List.length_append] at ho'
  obtain ⟨S2, c3, rfl, hh2⟩ := hh1.grown (zs := xs ++ ys) ho' hg hb
  have hex : (execOp (ev n ρ) { dst := d, op := .call { callee := .builtin .append, args := #[x, y], argTypes := #[t, t] }, type := ty, pos := pos, after := af, guard := none }).run P w = .ok (.value (.slice S2 (xs ++ ys).length c3)) w' := by
    simp only [execOp, resolve, List.map_toArray, List.map_cons, List.map_nil, hx, hy]
    simp [invoke, builtin, hrun]
  rw [hex]
  show runL ro P all Q os ((act n ρ ds).put d _) w'
  rw [act_put, List.length_append]
  refine h S2 c3 w' (hw.trans ⟨hg.os, hg.tape, hg.output, hg.size⟩) ?_
  exact hh2.ent (Ent.swap _ _ _)
/-- Nothing yet. -/
theorem G.nil_slice (e : TypeId) (enc : α → List Value) (sz : Nat) {Φ : World → Prop} (h : G w0 A (osl e enc sz none 0 [] :: L) Φ) : G w0 A L Φ :=
  G.ent (L := L) (L' := osl e enc sz none 0 [] :: L) (show Ent (sl L) (star (osl e enc sz none 0 []) (sl L)) from fun B k x => ⟨hnil, k, (Dj.nil _).symm, .nil _, .refl _, .inl ⟨rfl, rfl, rfl⟩, x⟩) h
/-- An owned row, given up. -/
theorem G.freeze_slice {e : TypeId} [en : EncLen enc sz] {c : Nat} {Φ : World → Prop} (h : G w0 A (psl enc sz S xs :: L) Φ) : G w0 A (osl e enc sz S c xs :: L) Φ := fun w hw hh => by
  refine h w hw ?_
  have hh1 := hh.ent (Ent.swap _ _ _)
  refine holds.ent ?_ (Ent.swap _ _ _)
  obtain ⟨B, k, d, l, m, k1, k2, d12, l1, l2, x, y⟩ := hh1
  have hrd := osl_rd x
  refine ⟨un B k1, k2, ?_, Le.un l (l1.trans m), l2.trans m, hnil, k2, (Dj.nil _).symm, .nil _, .refl _, ?_, (star A (sl L)).mono (.un_left _ _) (.refl _) y⟩
  · exact (Dj.un (d.le_right l2).symm d12.symm).symm
  · exact rdE.le hrd (Le.un_right (d.le_right l1))
theorem G.frz {e : TypeId} [en : EncLen enc sz] {c : Nat} {Φ : World → Prop} (h : G w0 A (psl enc sz S xs :: L) Φ) : G w0 A ([osl e enc sz S c xs] ++ L) Φ := G.freeze_slice h
/-- A new row off a literal. -/
theorem G.lit_slice {e : TypeId} {b : Nat} {cs : Array Value} [en : EncLen enc sz] (xs : List α) (hcs : cs.toList = xs.flatMap enc) (hm : xs.length ≤ maxLen) {Φ : World → Prop} (h : G w0 A (osl e enc sz (some ⟨b, 0, none⟩) xs.length xs :: L) Φ) : G w0 A (cellsB b cs e :: L) Φ :=
  G.ent (L := cellsB b cs e :: L) (L' := osl e enc sz (some ⟨b, 0, none⟩) xs.length xs :: L)
    ((show Ent (cellsB b cs e) (osl e enc sz (some ⟨b, 0, none⟩) xs.length xs) from fun _ k (x : k b = _) => .inr ⟨b, cs, rfl, x, Nat.le_refl _, hm, by rw [← Array.length_toList, hcs]; exact flat_len xs, by rw [hcs, ← flat_len (enc := enc) xs, List.take_length]⟩).star (Ent.refl (sl L))) h
end
end Go.Sl
/- The facts on types and functions of this translation that the walk looks up. Written by gen_ty.py. -/
namespace Go.Proofs.Ytkglmhgehccmoaa
open Go Go.Sl

theorem mixed : Try.prog.follows .mixedOrders = true := by kernel_rfl
instance : TyS Try.prog 1 := ⟨fun w => by kernel_rfl, fun w => by kernel_rfl⟩
instance : TyZ Try.prog 1 (.nilFunc) := ⟨fun w => by kernel_rfl⟩
instance : TyS Try.prog 2 := ⟨fun w => by kernel_rfl, fun w => by kernel_rfl⟩
instance : TyZ Try.prog 2 (.int .i64 0) := ⟨fun w => by kernel_rfl⟩
instance : TyS Try.prog 3 := ⟨fun w => by kernel_rfl, fun w => by kernel_rfl⟩
instance : TyZ Try.prog 3 (.int .i64 0) := ⟨fun w => by kernel_rfl⟩
instance : TyS Try.prog 4 := ⟨fun w => by kernel_rfl, fun w => by kernel_rfl⟩
instance : TyZ Try.prog 4 (.bool false) := ⟨fun w => by kernel_rfl⟩
instance : TyS Try.prog 5 := ⟨fun w => by kernel_rfl, fun w => by kernel_rfl⟩
instance : TyZ Try.prog 5 (.int .u8 0) := ⟨fun w => by kernel_rfl⟩
instance : TyS Try.prog 6 := ⟨fun w => by kernel_rfl, fun w => by kernel_rfl⟩
instance : TyZ Try.prog 6 (.int .u8 0) := ⟨fun w => by kernel_rfl⟩
instance : TyS Try.prog 9 := ⟨fun w => by kernel_rfl, fun w => by kernel_rfl⟩
instance : TyZ Try.prog 9 (.string ByteArray.empty) := ⟨fun w => by kernel_rfl⟩
instance : TyS Try.prog 10 := ⟨fun w => by kernel_rfl, fun w => by kernel_rfl⟩
instance : TyZ Try.prog 10 (.string ByteArray.empty) := ⟨fun w => by kernel_rfl⟩
instance : TyS Try.prog 11 := ⟨fun w => by kernel_rfl, fun w => by kernel_rfl⟩
instance : TyZ Try.prog 11 (.string ByteArray.empty) := ⟨fun w => by kernel_rfl⟩
instance : TyS Try.prog 12 := ⟨fun w => by kernel_rfl, fun w => by kernel_rfl⟩
instance : TyZ Try.prog 12 (.int .u64 0) := ⟨fun w => by kernel_rfl⟩
instance : TyS Try.prog 15 := ⟨fun w => by kernel_rfl, fun w => by kernel_rfl⟩
instance : TyZ Try.prog 15 (.pointer none) := ⟨fun w => by kernel_rfl⟩
instance : PtrTy Try.prog 15 := ⟨⟨124, by kernel_rfl⟩⟩
instance : TyS Try.prog 16 := ⟨fun w => by kernel_rfl, fun w => by kernel_rfl⟩
instance : TyZ Try.prog 16 (.pointer none) := ⟨fun w => by kernel_rfl⟩
instance : PtrTy Try.prog 16 := ⟨⟨127, by kernel_rfl⟩⟩
instance : TyS Try.prog 17 := ⟨fun w => by kernel_rfl, fun w => by kernel_rfl⟩
instance : TyZ Try.prog 17 (.pointer none) := ⟨fun w => by kernel_rfl⟩
instance : PtrTy Try.prog 17 := ⟨⟨136, by kernel_rfl⟩⟩
instance : TyS Try.prog 21 := ⟨fun w => by kernel_rfl, fun w => by kernel_rfl⟩
instance : TyZ Try.prog 21 (.int .i32 0) := ⟨fun w => by kernel_rfl⟩
instance : TyS Try.prog 22 := ⟨fun w => by kernel_rfl, fun w => by kernel_rfl⟩
instance : TyZ Try.prog 22 (.slice none 0 0) := ⟨fun w => by kernel_rfl⟩
instance : SlTy Try.prog 22 3 1 := ⟨by kernel_rfl, fun w => by kernel_rfl⟩
instance : ApTy Try.prog 22 3 1 8 := .of (by kernel_rfl) (by kernel_rfl) (by decide)
instance : TyS Try.prog 23 := ⟨fun w => by kernel_rfl, fun w => by kernel_rfl⟩
instance : TyZ Try.prog 23 (.nilFunc) := ⟨fun w => by kernel_rfl⟩
instance : TyS Try.prog 24 := ⟨fun w => by kernel_rfl, fun w => by kernel_rfl⟩
instance : TyZ Try.prog 24 (.pointer none) := ⟨fun w => by kernel_rfl⟩
instance : PtrTy Try.prog 24 := ⟨⟨71, by kernel_rfl⟩⟩
instance : TyS Try.prog 25 := ⟨fun w => by kernel_rfl, fun w => by kernel_rfl⟩
instance : TyZ Try.prog 25 (.int .i64 0) := ⟨fun w => by kernel_rfl⟩
instance : TyS Try.prog 27 := ⟨fun w => by kernel_rfl, fun w => by kernel_rfl⟩
instance : TyZ Try.prog 27 (.nilFunc) := ⟨fun w => by kernel_rfl⟩
instance : TyS Try.prog 28 := ⟨fun w => by kernel_rfl, fun w => by kernel_rfl⟩
instance : TyZ Try.prog 28 (.nilFunc) := ⟨fun w => by kernel_rfl⟩
instance : TyS Try.prog 29 := ⟨fun w => by kernel_rfl, fun w => by kernel_rfl⟩
instance : TyZ Try.prog 29 (.nilFunc) := ⟨fun w => by kernel_rfl⟩
instance : TyA Try.prog 30 5 := ⟨fun w => by kernel_rfl, fun w => by kernel_rfl⟩
instance : FieldOff Try.prog 30 0 0 := ⟨fun b k w => by kernel_rfl⟩
instance : FieldOff Try.prog 30 1 1 := ⟨fun b k w => by kernel_rfl⟩
instance : FieldOff Try.prog 30 2 2 := ⟨fun b k w => by kernel_rfl⟩
instance : FieldOff Try.prog 30 3 3 := ⟨fun b k w => by kernel_rfl⟩
instance : FieldOff Try.prog 30 4 4 := ⟨fun b k w => by kernel_rfl⟩
instance : TyZ Try.prog 30 ((.agg #[.int .i64 0, .int .i64 0, .string ByteArray.empty, .slice none 0 0, .bool false])) := ⟨fun w => by kernel_rfl⟩
instance : TyA Try.prog 31 5 := ⟨fun w => by kernel_rfl, fun w => by kernel_rfl⟩
instance : FieldOff Try.prog 31 0 0 := ⟨fun b k w => by kernel_rfl⟩
instance : FieldOff Try.prog 31 1 1 := ⟨fun b k w => by kernel_rfl⟩
instance : FieldOff Try.prog 31 2 2 := ⟨fun b k w => by kernel_rfl⟩
instance : FieldOff Try.prog 31 3 3 := ⟨fun b k w => by kernel_rfl⟩
instance : FieldOff Try.prog 31 4 4 := ⟨fun b k w => by kernel_rfl⟩
instance : TyZ Try.prog 31 ((.agg #[.int .i64 0, .int .i64 0, .string ByteArray.empty, .slice none 0 0, .bool false])) := ⟨fun w => by kernel_rfl⟩
instance : TyS Try.prog 32 := ⟨fun w => by kernel_rfl, fun w => by kernel_rfl⟩
instance : TyZ Try.prog 32 (.nilFunc) := ⟨fun w => by kernel_rfl⟩
instance : TyS Try.prog 33 := ⟨fun w => by kernel_rfl, fun w => by kernel_rfl⟩
instance : TyZ Try.prog 33 (.nilFunc) := ⟨fun w => by kernel_rfl⟩
instance : TyS Try.prog 34 := ⟨fun w => by kernel_rfl, fun w => by kernel_rfl⟩
instance : TyZ Try.prog 34 (.nilFunc) := ⟨fun w => by kernel_rfl⟩
instance : TyS Try.prog 35 := ⟨fun w => by kernel_rfl, fun w => by kernel_rfl⟩
instance : TyZ Try.prog 35 (.slice none 0 0) := ⟨fun w => by kernel_rfl⟩
instance : SlTy Try.prog 35 31 5 := ⟨by kernel_rfl, fun w => by kernel_rfl⟩
instance : ApTy Try.prog 35 31 5 64 := .of (by kernel_rfl) (by kernel_rfl) (by decide)
instance : TyS Try.prog 36 := ⟨fun w => by kernel_rfl, fun w => by kernel_rfl⟩
instance : TyZ Try.prog 36 (.nilFunc) := ⟨fun w => by kernel_rfl⟩
instance : TyS Try.prog 37 := ⟨fun w => by kernel_rfl, fun w => by kernel_rfl⟩
instance : TyZ Try.prog 37 (.nilFunc) := ⟨fun w => by kernel_rfl⟩
instance : TyS Try.prog 38 := ⟨fun w => by kernel_rfl, fun w => by kernel_rfl⟩
instance : TyZ Try.prog 38 (.nilFunc) := ⟨fun w => by kernel_rfl⟩
instance : TyS Try.prog 39 := ⟨fun w => by kernel_rfl, fun w => by kernel_rfl⟩
instance : TyZ Try.prog 39 (.nilFunc) := ⟨fun w => by kernel_rfl⟩
instance : TyS Try.prog 40 := ⟨fun w => by kernel_rfl, fun w => by kernel_rfl⟩
instance : TyZ Try.prog 40 (.nilFunc) := ⟨fun w => by kernel_rfl⟩
instance : TyS Try.prog 41 := ⟨fun w => by kernel_rfl, fun w => by kernel_rfl⟩
instance : TyZ Try.prog 41 (.slice none 0 0) := ⟨fun w => by kernel_rfl⟩
instance : SlTy Try.prog 41 79 9 := ⟨by kernel_rfl, fun w => by kernel_rfl⟩
instance : ApTy Try.prog 41 79 9 112 := .of (by kernel_rfl) (by kernel_rfl) (by decide)
instance : TyS Try.prog 42 := ⟨fun w => by kernel_rfl, fun w => by kernel_rfl⟩
instance : TyZ Try.prog 42 (.nilFunc) := ⟨fun w => by kernel_rfl⟩
instance : TyS Try.prog 43 := ⟨fun w => by kernel_rfl, fun w => by kernel_rfl⟩
instance : TyZ Try.prog 43 (.nilFunc) := ⟨fun w => by kernel_rfl⟩
instance : TyS Try.prog 44 := ⟨fun w => by kernel_rfl, fun w => by kernel_rfl⟩
instance : TyZ Try.prog 44 (.pointer none) := ⟨fun w => by kernel_rfl⟩
instance : PtrTy Try.prog 44 := ⟨⟨46, by kernel_rfl⟩⟩
instance : TyA Try.prog 45 3 := ⟨fun w => by kernel_rfl, fun w => by kernel_rfl⟩
instance : FieldOff Try.prog 45 0 0 := ⟨fun b k w => by kernel_rfl⟩
instance : FieldOff Try.prog 45 1 1 := ⟨fun b k w => by kernel_rfl⟩
instance : FieldOff Try.prog 45 2 2 := ⟨fun b k w => by kernel_rfl⟩
instance : TyZ Try.prog 45 ((.agg #[.int .i64 0, .int .i64 0, .slice none 0 0])) := ⟨fun w => by kernel_rfl⟩
instance : TyA Try.prog 46 3 := ⟨fun w => by kernel_rfl, fun w => by kernel_rfl⟩
instance : FieldOff Try.prog 46 0 0 := ⟨fun b k w => by kernel_rfl⟩
instance : FieldOff Try.prog 46 1 1 := ⟨fun b k w => by kernel_rfl⟩
instance : FieldOff Try.prog 46 2 2 := ⟨fun b k w => by kernel_rfl⟩
instance : TyZ Try.prog 46 ((.agg #[.int .i64 0, .int .i64 0, .slice none 0 0])) := ⟨fun w => by kernel_rfl⟩
instance : TyS Try.prog 47 := ⟨fun w => by kernel_rfl, fun w => by kernel_rfl⟩
instance : TyZ Try.prog 47 (.nilFunc) := ⟨fun w => by kernel_rfl⟩
instance : TyS Try.prog 48 := ⟨fun w => by kernel_rfl, fun w => by kernel_rfl⟩
instance : TyZ Try.prog 48 (.slice none 0 0) := ⟨fun w => by kernel_rfl⟩
instance : SlTy Try.prog 48 52 2 := ⟨by kernel_rfl, fun w => by kernel_rfl⟩
instance : ApTy Try.prog 48 52 2 40 := .of (by kernel_rfl) (by kernel_rfl) (by decide)
instance : TyS Try.prog 49 := ⟨fun w => by kernel_rfl, fun w => by kernel_rfl⟩
instance : TyZ Try.prog 49 (.nilFunc) := ⟨fun w => by kernel_rfl⟩
instance : TyS Try.prog 50 := ⟨fun w => by kernel_rfl, fun w => by kernel_rfl⟩
instance : TyZ Try.prog 50 (.nilFunc) := ⟨fun w => by kernel_rfl⟩
instance : TyA Try.prog 51 2 := ⟨fun w => by kernel_rfl, fun w => by kernel_rfl⟩
instance : FieldOff Try.prog 51 0 0 := ⟨fun b k w => by kernel_rfl⟩
instance : FieldOff Try.prog 51 1 1 := ⟨fun b k w => by kernel_rfl⟩
instance : TyZ Try.prog 51 ((.agg #[.string ByteArray.empty, .slice none 0 0])) := ⟨fun w => by kernel_rfl⟩
instance : TyA Try.prog 52 2 := ⟨fun w => by kernel_rfl, fun w => by kernel_rfl⟩
instance : FieldOff Try.prog 52 0 0 := ⟨fun b k w => by kernel_rfl⟩
instance : FieldOff Try.prog 52 1 1 := ⟨fun b k w => by kernel_rfl⟩
instance : TyZ Try.prog 52 ((.agg #[.string ByteArray.empty, .slice none 0 0])) := ⟨fun w => by kernel_rfl⟩
instance : TyS Try.prog 53 := ⟨fun w => by kernel_rfl, fun w => by kernel_rfl⟩
instance : TyZ Try.prog 53 (.nilFunc) := ⟨fun w => by kernel_rfl⟩
instance : TyS Try.prog 55 := ⟨fun w => by kernel_rfl, fun w => by kernel_rfl⟩
instance : TyZ Try.prog 55 (.nilFunc) := ⟨fun w => by kernel_rfl⟩
instance : TyS Try.prog 56 := ⟨fun w => by kernel_rfl, fun w => by kernel_rfl⟩
instance : TyZ Try.prog 56 (.nilFunc) := ⟨fun w => by kernel_rfl⟩
instance : TyS Try.prog 57 := ⟨fun w => by kernel_rfl, fun w => by kernel_rfl⟩
instance : TyZ Try.prog 57 (.nilFunc) := ⟨fun w => by kernel_rfl⟩
instance : TyS Try.prog 58 := ⟨fun w => by kernel_rfl, fun w => by kernel_rfl⟩
instance : TyZ Try.prog 58 (.nilFunc) := ⟨fun w => by kernel_rfl⟩
instance : TyS Try.prog 59 := ⟨fun w => by kernel_rfl, fun w => by kernel_rfl⟩
instance : TyZ Try.prog 59 (.nilFunc) := ⟨fun w => by kernel_rfl⟩
instance : TyS Try.prog 60 := ⟨fun w => by kernel_rfl, fun w => by kernel_rfl⟩
instance : TyZ Try.prog 60 (.nilFunc) := ⟨fun w => by kernel_rfl⟩
instance : TyS Try.prog 61 := ⟨fun w => by kernel_rfl, fun w => by kernel_rfl⟩
instance : TyZ Try.prog 61 (.nilFunc) := ⟨fun w => by kernel_rfl⟩
instance : TyS Try.prog 62 := ⟨fun w => by kernel_rfl, fun w => by kernel_rfl⟩
instance : TyZ Try.prog 62 (.nilFunc) := ⟨fun w => by kernel_rfl⟩
instance : TyS Try.prog 63 := ⟨fun w => by kernel_rfl, fun w => by kernel_rfl⟩
instance : TyZ Try.prog 63 (.nilFunc) := ⟨fun w => by kernel_rfl⟩
instance : TyS Try.prog 64 := ⟨fun w => by kernel_rfl, fun w => by kernel_rfl⟩
instance : TyZ Try.prog 64 (.nilFunc) := ⟨fun w => by kernel_rfl⟩
instance : TyS Try.prog 65 := ⟨fun w => by kernel_rfl, fun w => by kernel_rfl⟩
instance : TyZ Try.prog 65 (.nilFunc) := ⟨fun w => by kernel_rfl⟩
instance : TyS Try.prog 66 := ⟨fun w => by kernel_rfl, fun w => by kernel_rfl⟩
instance : TyZ Try.prog 66 (.nilFunc) := ⟨fun w => by kernel_rfl⟩
instance : TyS Try.prog 67 := ⟨fun w => by kernel_rfl, fun w => by kernel_rfl⟩
instance : TyZ Try.prog 67 (.pointer none) := ⟨fun w => by kernel_rfl⟩
instance : PtrTy Try.prog 67 := ⟨⟨102, by kernel_rfl⟩⟩
instance : TyS Try.prog 68 := ⟨fun w => by kernel_rfl, fun w => by kernel_rfl⟩
instance : TyZ Try.prog 68 (.nilFunc) := ⟨fun w => by kernel_rfl⟩
instance : TyS Try.prog 69 := ⟨fun w => by kernel_rfl, fun w => by kernel_rfl⟩
instance : TyZ Try.prog 69 (.int .i64 0) := ⟨fun w => by kernel_rfl⟩
instance : TyA Try.prog 70 3 := ⟨fun w => by kernel_rfl, fun w => by kernel_rfl⟩
instance : FieldOff Try.prog 70 0 0 := ⟨fun b k w => by kernel_rfl⟩
instance : FieldOff Try.prog 70 1 1 := ⟨fun b k w => by kernel_rfl⟩
instance : FieldOff Try.prog 70 2 2 := ⟨fun b k w => by kernel_rfl⟩
instance : TyZ Try.prog 70 ((.agg #[.int .i64 0, .int .i64 0, .pointer none])) := ⟨fun w => by kernel_rfl⟩
instance : TyA Try.prog 71 3 := ⟨fun w => by kernel_rfl, fun w => by kernel_rfl⟩
instance : FieldOff Try.prog 71 0 0 := ⟨fun b k w => by kernel_rfl⟩
instance : FieldOff Try.prog 71 1 1 := ⟨fun b k w => by kernel_rfl⟩
instance : FieldOff Try.prog 71 2 2 := ⟨fun b k w => by kernel_rfl⟩
instance : TyZ Try.prog 71 ((.agg #[.int .i64 0, .int .i64 0, .pointer none])) := ⟨fun w => by kernel_rfl⟩
instance : TyS Try.prog 72 := ⟨fun w => by kernel_rfl, fun w => by kernel_rfl⟩
instance : TyZ Try.prog 72 (.nilFunc) := ⟨fun w => by kernel_rfl⟩
instance : TyS Try.prog 73 := ⟨fun w => by kernel_rfl, fun w => by kernel_rfl⟩
instance : TyZ Try.prog 73 (.nilFunc) := ⟨fun w => by kernel_rfl⟩
instance : TyS Try.prog 74 := ⟨fun w => by kernel_rfl, fun w => by kernel_rfl⟩
instance : TyZ Try.prog 74 (.nilFunc) := ⟨fun w => by kernel_rfl⟩
instance : TyS Try.prog 75 := ⟨fun w => by kernel_rfl, fun w => by kernel_rfl⟩
instance : TyZ Try.prog 75 (.nilFunc) := ⟨fun w => by kernel_rfl⟩
instance : TyS Try.prog 76 := ⟨fun w => by kernel_rfl, fun w => by kernel_rfl⟩
instance : TyZ Try.prog 76 (.nilFunc) := ⟨fun w => by kernel_rfl⟩
instance : TyS Try.prog 77 := ⟨fun w => by kernel_rfl, fun w => by kernel_rfl⟩
instance : TyZ Try.prog 77 (.nilFunc) := ⟨fun w => by kernel_rfl⟩
instance : TyA Try.prog 78 9 := ⟨fun w => by kernel_rfl, fun w => by kernel_rfl⟩
instance : FieldOff Try.prog 78 0 0 := ⟨fun b k w => by kernel_rfl⟩
instance : FieldOff Try.prog 78 1 1 := ⟨fun b k w => by kernel_rfl⟩
instance : FieldOff Try.prog 78 2 2 := ⟨fun b k w => by kernel_rfl⟩
instance : FieldOff Try.prog 78 3 7 := ⟨fun b k w => by kernel_rfl⟩
instance : FieldOff Try.prog 78 4 8 := ⟨fun b k w => by kernel_rfl⟩
instance : TyZ Try.prog 78 ((.agg #[.int .i64 0, .int .i64 0, .int .i64 0, .int .i64 0, .string ByteArray.empty, .slice none 0 0, .bool false, .bool false, .slice none 0 0])) := ⟨fun w => by kernel_rfl⟩
instance : TyA Try.prog 79 9 := ⟨fun w => by kernel_rfl, fun w => by kernel_rfl⟩
instance : FieldOff Try.prog 79 0 0 := ⟨fun b k w => by kernel_rfl⟩
instance : FieldOff Try.prog 79 1 1 := ⟨fun b k w => by kernel_rfl⟩
instance : FieldOff Try.prog 79 2 2 := ⟨fun b k w => by kernel_rfl⟩
instance : FieldOff Try.prog 79 3 7 := ⟨fun b k w => by kernel_rfl⟩
instance : FieldOff Try.prog 79 4 8 := ⟨fun b k w => by kernel_rfl⟩
instance : TyZ Try.prog 79 ((.agg #[.int .i64 0, .int .i64 0, .int .i64 0, .int .i64 0, .string ByteArray.empty, .slice none 0 0, .bool false, .bool false, .slice none 0 0])) := ⟨fun w => by kernel_rfl⟩
instance : TyS Try.prog 80 := ⟨fun w => by kernel_rfl, fun w => by kernel_rfl⟩
instance : TyZ Try.prog 80 (.nilFunc) := ⟨fun w => by kernel_rfl⟩
instance : TyS Try.prog 81 := ⟨fun w => by kernel_rfl, fun w => by kernel_rfl⟩
instance : TyZ Try.prog 81 (.nilFunc) := ⟨fun w => by kernel_rfl⟩
instance : TyS Try.prog 83 := ⟨fun w => by kernel_rfl, fun w => by kernel_rfl⟩
instance : TyZ Try.prog 83 (.nilFunc) := ⟨fun w => by kernel_rfl⟩
instance : TyS Try.prog 84 := ⟨fun w => by kernel_rfl, fun w => by kernel_rfl⟩
instance : TyZ Try.prog 84 (.pointer none) := ⟨fun w => by kernel_rfl⟩
instance : PtrTy Try.prog 84 := ⟨⟨112, by kernel_rfl⟩⟩
instance : TyS Try.prog 85 := ⟨fun w => by kernel_rfl, fun w => by kernel_rfl⟩
instance : TyZ Try.prog 85 (.nilFunc) := ⟨fun w => by kernel_rfl⟩
instance : TyA Try.prog 86 2 := ⟨fun w => by kernel_rfl, fun w => by kernel_rfl⟩
instance : FieldOff Try.prog 86 0 0 := ⟨fun b k w => by kernel_rfl⟩
instance : FieldOff Try.prog 86 1 1 := ⟨fun b k w => by kernel_rfl⟩
instance : TyZ Try.prog 86 ((.agg #[.string ByteArray.empty, .slice none 0 0])) := ⟨fun w => by kernel_rfl⟩
instance : TyS Try.prog 87 := ⟨fun w => by kernel_rfl, fun w => by kernel_rfl⟩
instance : TyZ Try.prog 87 (.nilFunc) := ⟨fun w => by kernel_rfl⟩
instance : TyS Try.prog 89 := ⟨fun w => by kernel_rfl, fun w => by kernel_rfl⟩
instance : TyZ Try.prog 89 (.nilFunc) := ⟨fun w => by kernel_rfl⟩
instance : TyS Try.prog 90 := ⟨fun w => by kernel_rfl, fun w => by kernel_rfl⟩
instance : TyZ Try.prog 90 (.nilFunc) := ⟨fun w => by kernel_rfl⟩
instance : TyS Try.prog 91 := ⟨fun w => by kernel_rfl, fun w => by kernel_rfl⟩
instance : TyZ Try.prog 91 (.nilFunc) := ⟨fun w => by kernel_rfl⟩
instance : TyS Try.prog 92 := ⟨fun w => by kernel_rfl, fun w => by kernel_rfl⟩
instance : TyZ Try.prog 92 (.nilFunc) := ⟨fun w => by kernel_rfl⟩
instance : TyS Try.prog 93 := ⟨fun w => by kernel_rfl, fun w => by kernel_rfl⟩
instance : TyZ Try.prog 93 (.nilFunc) := ⟨fun w => by kernel_rfl⟩
instance : TyS Try.prog 94 := ⟨fun w => by kernel_rfl, fun w => by kernel_rfl⟩
instance : TyZ Try.prog 94 (.nilFunc) := ⟨fun w => by kernel_rfl⟩
instance : TyS Try.prog 95 := ⟨fun w => by kernel_rfl, fun w => by kernel_rfl⟩
instance : TyZ Try.prog 95 (.nilFunc) := ⟨fun w => by kernel_rfl⟩
instance : TyS Try.prog 96 := ⟨fun w => by kernel_rfl, fun w => by kernel_rfl⟩
instance : TyZ Try.prog 96 (.nilFunc) := ⟨fun w => by kernel_rfl⟩
instance : TyS Try.prog 97 := ⟨fun w => by kernel_rfl, fun w => by kernel_rfl⟩
instance : TyZ Try.prog 97 (.pointer none) := ⟨fun w => by kernel_rfl⟩
instance : PtrTy Try.prog 97 := ⟨⟨117, by kernel_rfl⟩⟩
instance : TyS Try.prog 98 := ⟨fun w => by kernel_rfl, fun w => by kernel_rfl⟩
instance : TyZ Try.prog 98 (.nilFunc) := ⟨fun w => by kernel_rfl⟩
instance : TyA Try.prog 99 6 := ⟨fun w => by kernel_rfl, fun w => by kernel_rfl⟩
instance : FieldOff Try.prog 99 0 0 := ⟨fun b k w => by kernel_rfl⟩
instance : FieldOff Try.prog 99 1 1 := ⟨fun b k w => by kernel_rfl⟩
instance : TyZ Try.prog 99 ((.agg #[.int .i64 0, .int .i64 0, .int .i64 0, .string ByteArray.empty, .slice none 0 0, .bool false])) := ⟨fun w => by kernel_rfl⟩
instance : TyA Try.prog 100 6 := ⟨fun w => by kernel_rfl, fun w => by kernel_rfl⟩
instance : FieldOff Try.prog 100 0 0 := ⟨fun b k w => by kernel_rfl⟩
instance : FieldOff Try.prog 100 1 1 := ⟨fun b k w => by kernel_rfl⟩
instance : TyZ Try.prog 100 ((.agg #[.int .i64 0, .int .i64 0, .int .i64 0, .string ByteArray.empty, .slice none 0 0, .bool false])) := ⟨fun w => by kernel_rfl⟩
instance : TyA Try.prog 101 1 := ⟨fun w => by kernel_rfl, fun w => by kernel_rfl⟩
instance : FieldOff Try.prog 101 0 0 := ⟨fun b k w => by kernel_rfl⟩
instance : TyZ Try.prog 101 ((.agg #[.pointer none])) := ⟨fun w => by kernel_rfl⟩
instance : TyA Try.prog 102 1 := ⟨fun w => by kernel_rfl, fun w => by kernel_rfl⟩
instance : FieldOff Try.prog 102 0 0 := ⟨fun b k w => by kernel_rfl⟩
instance : TyZ Try.prog 102 ((.agg #[.pointer none])) := ⟨fun w => by kernel_rfl⟩
instance : TyS Try.prog 104 := ⟨fun w => by kernel_rfl, fun w => by kernel_rfl⟩
instance : TyZ Try.prog 104 (.nilFunc) := ⟨fun w => by kernel_rfl⟩
instance : TyS Try.prog 105 := ⟨fun w => by kernel_rfl, fun w => by kernel_rfl⟩
instance : TyZ Try.prog 105 (.nilFunc) := ⟨fun w => by kernel_rfl⟩
instance : TyS Try.prog 106 := ⟨fun w => by kernel_rfl, fun w => by kernel_rfl⟩
instance : TyZ Try.prog 106 (.nilFunc) := ⟨fun w => by kernel_rfl⟩
instance : TyS Try.prog 107 := ⟨fun w => by kernel_rfl, fun w => by kernel_rfl⟩
instance : TyZ Try.prog 107 (.nilFunc) := ⟨fun w => by kernel_rfl⟩
instance : TyS Try.prog 108 := ⟨fun w => by kernel_rfl, fun w => by kernel_rfl⟩
instance : TyZ Try.prog 108 (.nilFunc) := ⟨fun w => by kernel_rfl⟩
instance : TyS Try.prog 109 := ⟨fun w => by kernel_rfl, fun w => by kernel_rfl⟩
instance : TyZ Try.prog 109 (.nilFunc) := ⟨fun w => by kernel_rfl⟩
instance : TyS Try.prog 110 := ⟨fun w => by kernel_rfl, fun w => by kernel_rfl⟩
instance : TyZ Try.prog 110 (.slice none 0 0) := ⟨fun w => by kernel_rfl⟩
instance : SlTy Try.prog 110 86 2 := ⟨by kernel_rfl, fun w => by kernel_rfl⟩
instance : ApTy Try.prog 110 86 2 40 := .of (by kernel_rfl) (by kernel_rfl) (by decide)
instance : TyA Try.prog 111 2 := ⟨fun w => by kernel_rfl, fun w => by kernel_rfl⟩
instance : FieldOff Try.prog 111 0 0 := ⟨fun b k w => by kernel_rfl⟩
instance : FieldOff Try.prog 111 1 1 := ⟨fun b k w => by kernel_rfl⟩
instance : TyZ Try.prog 111 ((.agg #[.slice none 0 0, .bool false])) := ⟨fun w => by kernel_rfl⟩
instance : TyA Try.prog 112 2 := ⟨fun w => by kernel_rfl, fun w => by kernel_rfl⟩
instance : FieldOff Try.prog 112 0 0 := ⟨fun b k w => by kernel_rfl⟩
instance : FieldOff Try.prog 112 1 1 := ⟨fun b k w => by kernel_rfl⟩
instance : TyZ Try.prog 112 ((.agg #[.slice none 0 0, .bool false])) := ⟨fun w => by kernel_rfl⟩
instance : TyS Try.prog 113 := ⟨fun w => by kernel_rfl, fun w => by kernel_rfl⟩
instance : TyZ Try.prog 113 (.nilFunc) := ⟨fun w => by kernel_rfl⟩
instance : TyS Try.prog 114 := ⟨fun w => by kernel_rfl, fun w => by kernel_rfl⟩
instance : TyZ Try.prog 114 (.nilFunc) := ⟨fun w => by kernel_rfl⟩
instance : TyS Try.prog 115 := ⟨fun w => by kernel_rfl, fun w => by kernel_rfl⟩
instance : TyZ Try.prog 115 (.slice none 0 0) := ⟨fun w => by kernel_rfl⟩
instance : SlTy Try.prog 115 100 6 := ⟨by kernel_rfl, fun w => by kernel_rfl⟩
instance : ApTy Try.prog 115 100 6 72 := .of (by kernel_rfl) (by kernel_rfl) (by decide)
instance : TyA Try.prog 116 2 := ⟨fun w => by kernel_rfl, fun w => by kernel_rfl⟩
instance : FieldOff Try.prog 116 0 0 := ⟨fun b k w => by kernel_rfl⟩
instance : FieldOff Try.prog 116 1 1 := ⟨fun b k w => by kernel_rfl⟩
instance : TyZ Try.prog 116 ((.agg #[.slice none 0 0, .bool false])) := ⟨fun w => by kernel_rfl⟩
instance : TyA Try.prog 117 2 := ⟨fun w => by kernel_rfl, fun w => by kernel_rfl⟩
instance : FieldOff Try.prog 117 0 0 := ⟨fun b k w => by kernel_rfl⟩
instance : FieldOff Try.prog 117 1 1 := ⟨fun b k w => by kernel_rfl⟩
instance : TyZ Try.prog 117 ((.agg #[.slice none 0 0, .bool false])) := ⟨fun w => by kernel_rfl⟩
instance : TyS Try.prog 118 := ⟨fun w => by kernel_rfl, fun w => by kernel_rfl⟩
instance : TyZ Try.prog 118 (.nilFunc) := ⟨fun w => by kernel_rfl⟩
instance : TyS Try.prog 119 := ⟨fun w => by kernel_rfl, fun w => by kernel_rfl⟩
instance : TyZ Try.prog 119 (.nilFunc) := ⟨fun w => by kernel_rfl⟩
instance : TyS Try.prog 120 := ⟨fun w => by kernel_rfl, fun w => by kernel_rfl⟩
instance : TyZ Try.prog 120 (.nilFunc) := ⟨fun w => by kernel_rfl⟩
instance : TyS Try.prog 121 := ⟨fun w => by kernel_rfl, fun w => by kernel_rfl⟩
instance : TyZ Try.prog 121 (.nilFunc) := ⟨fun w => by kernel_rfl⟩
instance : TyS Try.prog 122 := ⟨fun w => by kernel_rfl, fun w => by kernel_rfl⟩
instance : TyZ Try.prog 122 (.nilFunc) := ⟨fun w => by kernel_rfl⟩
instance : TyS Try.prog 128 := ⟨fun w => by kernel_rfl, fun w => by kernel_rfl⟩
instance : TyZ Try.prog 128 (.int .u32 0) := ⟨fun w => by kernel_rfl⟩
instance : TyS Try.prog 129 := ⟨fun w => by kernel_rfl, fun w => by kernel_rfl⟩
instance : TyZ Try.prog 129 (.int .u8 0) := ⟨fun w => by kernel_rfl⟩
instance : TyS Try.prog 130 := ⟨fun w => by kernel_rfl, fun w => by kernel_rfl⟩
instance : TyZ Try.prog 130 (.int .u8 0) := ⟨fun w => by kernel_rfl⟩
instance : TyS Try.prog 131 := ⟨fun w => by kernel_rfl, fun w => by kernel_rfl⟩
instance : TyZ Try.prog 131 (.nilFunc) := ⟨fun w => by kernel_rfl⟩
instance : TyS Try.prog 132 := ⟨fun w => by kernel_rfl, fun w => by kernel_rfl⟩
instance : TyZ Try.prog 132 (.pointer none) := ⟨fun w => by kernel_rfl⟩
instance : PtrTy Try.prog 132 := ⟨⟨5, by kernel_rfl⟩⟩
instance : TyS Try.prog 133 := ⟨fun w => by kernel_rfl, fun w => by kernel_rfl⟩
instance : TyZ Try.prog 133 (.int .i32 0) := ⟨fun w => by kernel_rfl⟩
instance : TyS Try.prog 134 := ⟨fun w => by kernel_rfl, fun w => by kernel_rfl⟩
instance : TyZ Try.prog 134 (.int .i32 0) := ⟨fun w => by kernel_rfl⟩
instance : TyS Try.prog 137 := ⟨fun w => by kernel_rfl, fun w => by kernel_rfl⟩
instance : TyZ Try.prog 137 (.nilFunc) := ⟨fun w => by kernel_rfl⟩
instance : TyS Try.prog 138 := ⟨fun w => by kernel_rfl, fun w => by kernel_rfl⟩
instance : TyZ Try.prog 138 (.nilFunc) := ⟨fun w => by kernel_rfl⟩
instance : TyS Try.prog 139 := ⟨fun w => by kernel_rfl, fun w => by kernel_rfl⟩
instance : TyZ Try.prog 139 (.nilFunc) := ⟨fun w => by kernel_rfl⟩
instance : En Try.prog 3 := ⟨enters_of Try.func3 (by kernel_rfl) rfl⟩
instance : En Try.prog 4 := ⟨enters_of Try.func4 (by kernel_rfl) rfl⟩
instance : En Try.prog 5 := ⟨enters_of Try.func5 (by kernel_rfl) rfl⟩
instance : En Try.prog 6 := ⟨enters_of Try.func6 (by kernel_rfl) rfl⟩
instance : En Try.prog 7 := ⟨enters_of Try.func7 (by kernel_rfl) rfl⟩
instance : En Try.prog 8 := ⟨enters_of Try.func8 (by kernel_rfl) rfl⟩
instance : En Try.prog 9 := ⟨enters_of Try.func9 (by kernel_rfl) rfl⟩
instance : En Try.prog 10 := ⟨enters_of Try.func10 (by kernel_rfl) rfl⟩
instance : En Try.prog 11 := ⟨enters_of Try.func11 (by kernel_rfl) rfl⟩
instance : En Try.prog 12 := ⟨enters_of Try.func12 (by kernel_rfl) rfl⟩
instance : En Try.prog 13 := ⟨enters_of Try.func13 (by kernel_rfl) rfl⟩
instance : En Try.prog 14 := ⟨enters_of Try.func14 (by kernel_rfl) rfl⟩
instance : En Try.prog 15 := ⟨enters_of Try.func15 (by kernel_rfl) rfl⟩
instance : En Try.prog 16 := ⟨enters_of Try.func16 (by kernel_rfl) rfl⟩
instance : En Try.prog 17 := ⟨enters_of Try.func17 (by kernel_rfl) rfl⟩
instance : En Try.prog 18 := ⟨enters_of Try.func18 (by kernel_rfl) rfl⟩
instance : En Try.prog 19 := ⟨enters_of Try.func19 (by kernel_rfl) rfl⟩
instance : En Try.prog 20 := ⟨enters_of Try.func20 (by kernel_rfl) rfl⟩
instance : En Try.prog 21 := ⟨enters_of Try.func21 (by kernel_rfl) rfl⟩
instance : En Try.prog 22 := ⟨enters_of Try.func22 (by kernel_rfl) rfl⟩
instance : En Try.prog 23 := ⟨enters_of Try.func23 (by kernel_rfl) rfl⟩
instance : En Try.prog 24 := ⟨enters_of Try.func24 (by kernel_rfl) rfl⟩
instance : En Try.prog 25 := ⟨enters_of Try.func25 (by kernel_rfl) rfl⟩
instance : En Try.prog 26 := ⟨enters_of Try.func26 (by kernel_rfl) rfl⟩
instance : En Try.prog 27 := ⟨enters_of Try.func27 (by kernel_rfl) rfl⟩
instance : En Try.prog 28 := ⟨enters_of Try.func28 (by kernel_rfl) rfl⟩
instance : En Try.prog 29 := ⟨enters_of Try.func29 (by kernel_rfl) rfl⟩
instance : En Try.prog 30 := ⟨enters_of Try.func30 (by kernel_rfl) rfl⟩
instance : En Try.prog 31 := ⟨enters_of Try.func31 (by kernel_rfl) rfl⟩
instance : En Try.prog 32 := ⟨enters_of Try.func32 (by kernel_rfl) rfl⟩
instance : En Try.prog 33 := ⟨enters_of Try.func33 (by kernel_rfl) rfl⟩
instance : En Try.prog 34 := ⟨enters_of Try.func34 (by kernel_rfl) rfl⟩
instance : En Try.prog 35 := ⟨enters_of Try.func35 (by kernel_rfl) rfl⟩
instance : En Try.prog 36 := ⟨enters_of Try.func36 (by kernel_rfl) rfl⟩
instance : En Try.prog 37 := ⟨enters_of Try.func37 (by kernel_rfl) rfl⟩
instance : En Try.prog 38 := ⟨enters_of Try.func38 (by kernel_rfl) rfl⟩
instance : En Try.prog 39 := ⟨enters_of Try.func39 (by kernel_rfl) rfl⟩
instance : En Try.prog 40 := ⟨enters_of Try.func40 (by kernel_rfl) rfl⟩
instance : En Try.prog 41 := ⟨enters_of Try.func41 (by kernel_rfl) rfl⟩
instance : En Try.prog 42 := ⟨enters_of Try.func42 (by kernel_rfl) rfl⟩
instance : En Try.prog 43 := ⟨enters_of Try.func43 (by kernel_rfl) rfl⟩
instance : En Try.prog 44 := ⟨enters_of Try.func44 (by kernel_rfl) rfl⟩
instance : En Try.prog 45 := ⟨enters_of Try.func45 (by kernel_rfl) rfl⟩
instance : En Try.prog 46 := ⟨enters_of Try.func46 (by kernel_rfl) rfl⟩
instance : En Try.prog 47 := ⟨enters_of Try.func47 (by kernel_rfl) rfl⟩
instance : En Try.prog 48 := ⟨enters_of Try.func48 (by kernel_rfl) rfl⟩
instance : En Try.prog 49 := ⟨enters_of Try.func49 (by kernel_rfl) rfl⟩
instance : En Try.prog 50 := ⟨enters_of Try.func50 (by kernel_rfl) rfl⟩
instance : En Try.prog 51 := ⟨enters_of Try.func51 (by kernel_rfl) rfl⟩
instance : En Try.prog 52 := ⟨enters_of Try.func52 (by kernel_rfl) rfl⟩
instance : En Try.prog 53 := ⟨enters_of Try.func53 (by kernel_rfl) rfl⟩
instance : En Try.prog 54 := ⟨enters_of Try.func54 (by kernel_rfl) rfl⟩
instance : En Try.prog 55 := ⟨enters_of Try.func55 (by kernel_rfl) rfl⟩
instance : En Try.prog 56 := ⟨enters_of Try.func56 (by kernel_rfl) rfl⟩
instance : En Try.prog 57 := ⟨enters_of Try.func57 (by kernel_rfl) rfl⟩
instance : En Try.prog 58 := ⟨enters_of Try.func58 (by kernel_rfl) rfl⟩
instance : En Try.prog 59 := ⟨enters_of Try.func59 (by kernel_rfl) rfl⟩
instance : En Try.prog 60 := ⟨enters_of Try.func60 (by kernel_rfl) rfl⟩
instance : En Try.prog 61 := ⟨enters_of Try.func61 (by kernel_rfl) rfl⟩
instance : En Try.prog 62 := ⟨enters_of Try.func62 (by kernel_rfl) rfl⟩
instance : En Try.prog 63 := ⟨enters_of Try.func63 (by kernel_rfl) rfl⟩
instance : En Try.prog 64 := ⟨enters_of Try.func64 (by kernel_rfl) rfl⟩
instance : En Try.prog 65 := ⟨enters_of Try.func65 (by kernel_rfl) rfl⟩
instance : En Try.prog 66 := ⟨enters_of Try.func66 (by kernel_rfl) rfl⟩
instance : En Try.prog 67 := ⟨enters_of Try.func67 (by kernel_rfl) rfl⟩
instance : En Try.prog 68 := ⟨enters_of Try.func68 (by kernel_rfl) rfl⟩
instance : En Try.prog 69 := ⟨enters_of Try.func69 (by kernel_rfl) rfl⟩
instance : En Try.prog 70 := ⟨enters_of Try.func70 (by kernel_rfl) rfl⟩
instance : En Try.prog 71 := ⟨enters_of Try.func71 (by kernel_rfl) rfl⟩
instance : En Try.prog 72 := ⟨enters_of Try.func72 (by kernel_rfl) rfl⟩
instance : En Try.prog 73 := ⟨enters_of Try.func73 (by kernel_rfl) rfl⟩
instance : En Try.prog 74 := ⟨enters_of Try.func74 (by kernel_rfl) rfl⟩
instance : En Try.prog 75 := ⟨enters_of Try.func75 (by kernel_rfl) rfl⟩
instance : En Try.prog 91 := ⟨enters_of Try.func91 (by kernel_rfl) rfl⟩
instance : En Try.prog 96 := ⟨enters_of Try.func96 (by kernel_rfl) rfl⟩
instance : En Try.prog 98 := ⟨enters_of Try.func98 (by kernel_rfl) rfl⟩
end Go.Proofs.Ytkglmhgehccmoaa
/- Symbols, elements, preferences as data; what '==' on them comes to. -/
namespace Go.Proofs.Ytkglmhgehccmoaa
open Go Go.Sl
attribute [local irreducible] Code.wpIn roundPost bodyPostM runL Ret Meets Begin

/-! ### '==' on structs -/
structure SymD where
  kind : Int
  text : ByteArray
  n : Int
def SymD.cells (s : SymD) : List Value := [.int .i64 s.kind, .string s.text, .int .i64 s.n]
def SymD.val (s : SymD) : Value := .agg #[.int .i64 s.kind, .string s.text, .int .i64 s.n]
def SymD.beq (a b : SymD) : Bool := a.kind == b.kind && (a.text.toList == b.text.toList && (a.n == b.n && true))

structure ElemD where
  id : SymD
  attr : SymD
  value : SymD
  acc : Bool
  goal : Bool
  tag : Int
def ElemD.val (e : ElemD) : Value := .agg #[.int .i64 e.id.kind, .string e.id.text, .int .i64 e.id.n, .int .i64 e.attr.kind, .string e.attr.text, .int .i64 e.attr.n, .int .i64 e.value.kind, .string e.value.text, .int .i64 e.value.n, .bool e.acc, .bool e.goal, .int .i64 e.tag]
def ElemD.beq (a b : ElemD) : Bool := a.id.beq b.id && (a.attr.beq b.attr && (a.value.beq b.value && (a.acc == b.acc && (a.goal == b.goal && (a.tag == b.tag && true)))))
theorem eq_bool (a b : Bool) : EqTy Try.prog 4 (.bool a) (.bool b) (a == b) := by
  have h : ∀ w, (Op.equal 4 (.bool a) (.bool b)).run Try.prog w = .ok (a == b) w := fun w => run_equal_bool w _ a b (by kernel_rfl)
  refine ⟨fun w => ?_, fun w => ?_, fun op x y w => ?_⟩
  · simp only [binOp]
    simp [h]
  · simp only [binOp]
    simp [h]
  · cases op <;> rfl
theorem toList_inj (a b : ByteArray) : a.toList = b.toList ↔ a = b := by
  rw [ByteArray.toList_eq, ByteArray.toList_eq]
  obtain ⟨⟨x⟩⟩ := a
  obtain ⟨⟨y⟩⟩ := b
  simp
end Go.Proofs.Ytkglmhgehccmoaa
/- Owned rows: stores into them, a shorter view of them, new ones; ordered sets as one assertion. Plain library, no program in sight. -/
namespace Go.Sl
open Go Go.Proofs Go.RowKit

section
variable {α : Type} {enc : α → List Value} {sz : Nat}
theorem flat_take [e : EncLen enc sz] : ∀ (ys : List α) (i : Nat), (ys.flatMap enc).take (i * sz) = (ys.take i).flatMap enc
  | [], i => by simp
  | y :: ys, 0 => by simp
  | y :: ys, i + 1 => by
    have h1 : (enc y).length = sz := e.len y
    have : (i + 1) * sz = (enc y).length + i * sz := by rw [h1, Nat.add_mul]; omega
    rw [List.flatMap_cons, this, List.take_length_add_append, flat_take ys i]
    simp
theorem flat_drop [e : EncLen enc sz] : ∀ (ys : List α) (i : Nat), (ys.flatMap enc).drop (i * sz) = (ys.drop i).flatMap enc
  | [], i => by simp
  | y :: ys, 0 => by simp
  | y :: ys, i + 1 => by
    have h1 : (enc y).length = sz := e.len y
    have : (i + 1) * sz = (enc y).length + i * sz := by rw [h1, Nat.add_mul]; omega
    rw [List.flatMap_cons, this, List.drop_length_add_append, flat_drop ys i]
    simp
theorem flat_set [e : EncLen enc sz] (ys : List α) (i : Nat) (z : α) (hi : i < ys.length) : (ys.set i z).flatMap enc = (ys.flatMap enc).take (i * sz) ++ enc z ++ (ys.flatMap enc).drop ((i + 1) * sz) := by
  rw [flat_take, flat_drop, List.set_eq_take_append_cons_drop, if_pos hi]
  simp [List.flatMap_append]
end

section
variable {w0 : World} {A : SProp} {L : List SProp} {ro : Option Nat} {P : Program} {Q : Exit → Act → World → Prop} {all : Array Oper} {os : List Oper} {n : Nat} {ρ : Nat → Value} {ds : List Nat}
variable {d : Option Tmp} {ty : TypeId} {pos : String} {af : Array Edge} {x y : Operand}
variable {α : Type} {enc : α → List Value} {sz : Nat} {xs : List α} {S : Option Addr}
/-- A store of a whole element into an owned row. -/
theorem o_storeE {t e : TypeId} {sz' c i : Nat} {v : Value} {z : α} {M : List SProp} (hx : ev n ρ x = padr S (i * sz)) (hy : ev n ρ y = v) [tk : Take1 L (osl e enc sz S c xs) M] [el : EncLen enc sz] [ts : TySz P t sz'] (hs : sz' = sz) (hv : v.cells.toList = enc z) (hi : i < xs.length)
    (h : G w0 A (osl e enc sz S c (xs.set i z) :: M) (fun w => runL ro P all Q os (act n (updo ρ d undef) ds) w)) :
    G w0 A L (fun w => runL ro P all Q ({ dst := d, op := .store t x y, type := ty, pos := pos, after := af, guard := none } :: os) (act n ρ ds) w) := by
  subst hs
  refine o_run rfl fun w hw hh => ?_
  refine ⟨fun _ _ => trivial, ?_⟩
  rw [Oper.semAt_eq _ _ _ (by intro c e; cases e), act_eval]
  have hh1 : holds (star (osl e enc sz' S c xs) (star A (sl M))) w := (hh.ent ((Ent.refl A).star (sl_perm tk.perm))).ent (Ent.swap _ _ _)
  have hopen : ∃ g cur, S = some ⟨g, 0, none⟩ ∧ (xs.length ≤ c ∧ c ≤ maxLen ∧ cur.size = c * sz' ∧ cur.toList.take (xs.length * sz') = xs.flatMap enc) ∧ holds (star (blk g (.cells cur e (0, 0))) (star A (sl M))) w := by
    obtain ⟨B, k, dd, l, m, k1, k2, d12, l1, l2, hx, hy⟩ := hh1
    rcases hx with ⟨_, rfl, _⟩ | ⟨g, cur, hA, hg, hr⟩
    · simp at hi
    · exact ⟨g, cur, hA, hr, B, k, dd, l, m, k1, k2, d12, l1, l2, hg, hy⟩
  obtain ⟨g, cur, rfl, ⟨h1, h2, h3, h4⟩, hh2⟩ := hopen
  have hbw : w.heap[g]? = some (.cells cur e (0, 0)) := (Sees.left (sees_blk g _)) w hh2
  have hvl : v.cells.toList.length = sz' := by rw [hv]; exact el.len z
  have hvs : v.cells.size = sz' := by rw [← Array.length_toList]; exact hvl
  have hle : i * sz' + sz' ≤ cur.size := by
    rw [h3]
    calc i * sz' + sz' = (i + 1) * sz' := by rw [Nat.add_mul]; omega
      _ ≤ c * sz' := Nat.mul_le_mul_right _ (by omega)
  have hst := run_storeCells_at (P := P) g (i * sz') e v.cells.toList 0 cur w hbw (by rw [hvl]; simpa using hle) (by rw [hv]; exact el.one z)
  have hpa : padr (some ⟨g, 0, none⟩) (i * sz') = .pointer (some ⟨g, i * sz', none⟩) := by rw [padr_some]; simp
  have hrun : (execOp (ev n ρ) { dst := d, op := .store t x y, type := ty, pos := pos, after := af, guard := none }).run P w = .ok .skip (w.setRow g (sto cur (i * sz') v.cells)) := by
    simp only [execOp, hx, hy, hpa]
    simp [Instr.storeAt, Instr.sureAddr, storeVar, ts.size, hvs, hst, sto]
  rw [hrun]
  show runL ro P all Q os ((act n ρ ds).put d undef) _
  rw [act_put]
  refine h _ (hw.trans (std_setRow _ _ _)) ?_
  have hh3 := hh2.update (o' := .cells (sto cur (i * sz') v.cells) e (0, 0)) (setRow_heap w g cur _ e _ hbw) (fun j hj => hp_setRow_ne w _ hj)
  have hsize : (sto cur (i * sz') v.cells).toList = cur.toList.take (i * sz') ++ enc z ++ cur.toList.drop ((i + 1) * sz') := by
    simp only [sto, hvl]
    rw [hv, show (i + 1) * sz' = i * sz' + sz' by rw [Nat.add_mul]; omega]
  have hcl : cur.toList.length = c * sz' := by rw [Array.length_toList, h3]
  refine (hh3.ent (Ent.star ?_ (Ent.refl _))).ent (Ent.swap _ _ _)
  intro B k hk
  refine .inr ⟨g, _, rfl, hk, by simpa using h1, h2, ?_, ?_⟩
  · rw [← Array.length_toList, hsize]
    have := el.len z
    simp only [List.length_append, List.length_take, List.length_drop, hcl, this]
    have h5 : (i + 1) * sz' ≤ c * sz' := Nat.mul_le_mul_right _ (by omega)
    have h6 : (i + 1) * sz' = i * sz' + sz' := by rw [Nat.add_mul]; omega
    omega
  · rw [hsize, List.length_set, flat_set xs i z hi, ← h4]
    have h5 : (i + 1) * sz' ≤ xs.length * sz' := Nat.mul_le_mul_right _ hi
    have h6 : (i + 1) * sz' = i * sz' + sz' := by rw [Nat.add_mul]; omega
    have h7 : xs.length * sz' ≤ cur.toList.length := by rw [hcl]; exact Nat.mul_le_mul_right _ h1
    have hl1 : (cur.toList.take (i * sz') ++ enc z).length = (i + 1) * sz' := by
      simp only [List.length_append, List.length_take, el.len]; omega
    rw [List.take_take, Nat.min_eq_left (by omega), List.drop_take]
    conv => lhs; rw [show xs.length * sz' = (cur.toList.take (i * sz') ++ enc z).length + (xs.length * sz' - (i + 1) * sz') by rw [hl1]; omega]
    rw [List.take_length_add_append]
theorem osl_take {e : TypeId} [el : EncLen enc sz] {c k : Nat} (hk : k ≤ xs.length) : Ent (osl e enc sz S c xs) (osl e enc sz S c (xs.take k)) := by
  rintro B h (⟨hA, rfl, hc⟩ | ⟨g, cur, hA, hg, h1, h2, h3, h4⟩)
  · exact .inl ⟨hA, by simp, hc⟩
  · refine .inr ⟨g, cur, hA, hg, by simp; omega, h2, h3, ?_⟩
    rw [List.length_take, Nat.min_eq_left hk, ← flat_take, ← h4, List.take_take, Nat.min_eq_left (Nat.mul_le_mul_right _ hk)]
/-- An owned row grows no shorter than its room. -/
theorem osl_room {e : TypeId} {c : Nat} {C : SProp} {w : World} (h : holds (star (osl e enc sz S c xs) C) w) : xs.length ≤ c := by
  obtain ⟨_, _, _, _, _, _, _, _, _, _, x, _⟩ := h
  rcases x with ⟨_, rfl, rfl⟩ | ⟨_, _, _, _, h1, _⟩
  · exact Nat.le_refl _
  · exact h1
/-- 's[:k]' of an owned row. -/
theorem o_upto {t e : TypeId} {sz' c len k : Nat} {kd : IntKind} {m : Int} {M : List SProp} (hx : ev n ρ x = .slice S len c) (hy : ev n ρ y = .int kd m) (hm : m = (k : Int)) [tk : Take1 L (osl e enc sz S c xs) M] [el : EncLen enc sz] [st : SlTy P t e sz'] (hl : xs.length = len) (hk : k ≤ len)
    (h : G w0 A (osl e enc sz S c (xs.take k) :: M) (fun w => runL ro P all Q os (act n (updo ρ d (.slice S k c)) ds) w)) :
    G w0 A L (fun w => runL ro P all Q ({ dst := d, op := .slice t x none (some y) none, type := ty, pos := pos, after := af, guard := none } :: os) (act n ρ ds) w) := by
  subst hl hm
  have hh1 : ∀ w, holds (star A (sl L)) w → xs.length ≤ c := fun w hh => osl_room ((hh.ent ((Ent.refl A).star (sl_perm tk.perm))).ent (Ent.swap _ _ _))
  refine o_val (v := .slice S k c) rfl (by intro c e; cases e) (fun w hw hh => ?_) ?_
  · simp only [execOp]
    refine run_v ?_
    have hc := hh1 w hh
    have hkc : (k : Int) ≤ (c : Int) := by omega
    simp only [Option.map_none, Option.map_some, hx, hy]
    simp [Instr.sliceAt, Instr.slice, run_underlying st.ty, Instr.sliceBounds, Instr.sliceBound, asIntOf, st.size, hkc]
    have hkn : k ≤ c := by omega
    cases S <;> simp [Addr.add] <;> intro hck <;> exact absurd hck (by omega)
  · exact G.perm tk.perm (G.ent (L := osl e enc sz S c xs :: M) (L' := osl e enc sz S c (xs.take k) :: M) ((osl_take hk).star (Ent.refl _)) h)
theorem o_uptoR {t e : TypeId} {sz' c len k : Nat} {kd : IntKind} {m : Int} {M : List SProp} (hx : ev n ρ x = .slice S len c) (hy : ev n ρ y = .int kd m) (hm : m = (k : Int)) [tk : Take1 L (osl e enc sz S c xs) M] [st : SlTy P t e sz'] (hl : xs.length = len) (hk : k ≤ len)
    (h : G w0 A L (fun w => runL ro P all Q os (act n (updo ρ d (.slice S k c)) ds) w)) :
    G w0 A L (fun w => runL ro P all Q ({ dst := d, op := .slice t x none (some y) none, type := ty, pos := pos, after := af, guard := none } :: os) (act n ρ ds) w) := by
  subst hl hm
  have hh1 : ∀ w, holds (star A (sl L)) w → xs.length ≤ c := fun w hh => osl_room ((hh.ent ((Ent.refl A).star (sl_perm tk.perm))).ent (Ent.swap _ _ _))
  refine o_val (v := .slice S k c) rfl (by intro c e; cases e) (fun w hw hh => ?_) h
  simp only [execOp]
  refine run_v ?_
  have hc := hh1 w hh
  have hkc : (k : Int) ≤ (c : Int) := by omega
  simp only [Option.map_none, Option.map_some, hx, hy]
  simp [Instr.sliceAt, Instr.slice, run_underlying st.ty, Instr.sliceBounds, Instr.sliceBound, asIntOf, st.size, hkc]
  have hkn : k ≤ c := by omega
  cases S <;> simp [Addr.add] <;> intro hck <;> exact absurd hck (by omega)
theorem G.shorten {e : TypeId} [el : EncLen enc sz] {c : Nat} (k : Nat) {M : List SProp} {Φ : World → Prop} [tk : Take1 L (osl e enc sz S c xs) M] (hk : k ≤ xs.length) (h : G w0 A (osl e enc sz S c (xs.take k) :: M) Φ) : G w0 A L Φ :=
  G.perm tk.perm (G.ent (L := osl e enc sz S c xs :: M) (L' := osl e enc sz S c (xs.take k) :: M) ((osl_take hk).star (Ent.refl _)) h)
/-- 'make([]T, 0, c)'. -/
theorem o_make0 {t e : TypeId} {s bytes c : Nat} {kl kc : IntKind} {m : Int} (hx : ev n ρ x = .int kl 0) (hy : ev n ρ y = .int kc m) (hm : m = (c : Int)) [at_ : ApTy P t e s bytes] [en : EncLen enc s] (hb : bytes * c ≤ 281474976710656) (hc : c ≤ maxLen)
    (h : ∀ S, G w0 A (osl e enc s S c ([] : List α) :: L) (fun w => runL ro P all Q os (act n (updo ρ d (.slice S 0 c)) ds) w)) :
    G w0 A L (fun w => runL ro P all Q ({ dst := d, op := .makeSlice t x y, type := ty, pos := pos, after := af, guard := none } :: os) (act n ρ ds) w) := by
  subst hm
  refine o_run rfl fun w hw hh => ?_
  refine ⟨fun _ _ => trivial, ?_⟩
  rw [Oper.semAt_eq _ _ _ (by intro c e; cases e), act_eval]
  obtain ⟨i, z, ht, hi, hz, h1, h2, h3⟩ := at_.ex
  obtain ⟨w', hrun, ho, hg⟩ := run_make_own (P := P) w 0 t e i z s ht hi hz h1 kl kc c (by rw [h2]; exact hb) hc (Nat.zero_le _)
  have hh1 : holds (star (osl e enc s none 0 ([] : List α)) (star A (sl L))) w := by
    obtain ⟨B, k, dd, l, m, x⟩ := hh
    exact ⟨B, k, dd, l, m, hnil, k, (Dj.nil _).symm, .nil _, .refl _, .inl ⟨rfl, rfl, rfl⟩, x⟩
  obtain ⟨S2, c3, he, hh2⟩ := hh1.grown (zs := ([] : List α)) ho (by simpa [Value.ownBlock] using hg) (.inr rfl)
  simp only [Value.slice.injEq, List.length_nil, true_and] at he
  obtain ⟨rfl, rfl⟩ := he
  have hex : (execOp (ev n ρ) { dst := d, op := .makeSlice t x y, type := ty, pos := pos, after := af, guard := none }).run P w = .ok (.value (.slice (some ⟨w.heap.size, 0, none⟩) 0 c)) w' := by
    simp only [execOp, hx, hy]
    simp [hrun]
  rw [hex]
  show runL ro P all Q os ((act n ρ ds).put d _) w'
  rw [act_put]
  exact h _ w' (hw.trans ⟨hg.os, hg.tape, hg.output, hg.size⟩) (hh2.ent (Ent.swap _ _ _))

/-- 'append' to an empty owned row. -/
theorem o_append0 {t e : TypeId} {s bytes c c2 len : Nat} {ys : List α} {S' : Option Addr} {tys : Array TypeId} {M : List SProp} (hx : ev n ρ x = .slice S 0 c) (hy : ev n ρ y = .slice S' len c2) (ht : tys = #[t, t]) [at_ : ApTy P t e s bytes] [en : EncLen enc sz] (hs : s = sz)
    [hr : HasRd L S' enc sz ys] (hlen : ys.length = len) [tk : Take1 L (osl e enc sz S c ([] : List α)) M] (hmax : ys.length ≤ maxLen) (hbytes : ys.length * bytes ≤ 140737488355328)
    (h : ∀ S2 c3, G w0 A (osl e enc sz S2 c3 ys :: M) (fun w => runL ro P all Q os (act n (updo ρ d (.slice S2 len c3)) ds) w)) :
    G w0 A L (fun w => runL ro P all Q ({ dst := d, op := .call { callee := .builtin .append, args := #[x, y], argTypes := tys }, type := ty, pos := pos, after := af, guard := none } :: os) (act n ρ ds) w) :=
  o_append (xs := ([] : List α)) hx hy ht hs hlen (fun _ => .inr trivial) (by simpa using hmax) (by simpa using hbytes) fun S2 c3 => by
    have := h S2 c3
    rw [← hlen] at this
    simpa using this
/-- A function held against nil. -/
theorem o_fnil {xt yt : TypeId} {fn : Fn} {a c : Array Value} (hx : ev n ρ x = .func fn a c) (hg : ∀ w, (eqGuard .eql xt x (.const .nilFunc) (.func fn a c) .nilFunc).run P w = .ok () w) (hr : ∀ w, (binOp .eql xt (.func fn a c) .nilFunc).run P w = .ok (.bool false) w)
    (h : G w0 A L (fun w => runL ro P all Q os (act n (updo ρ d (.bool false)) ds) w)) :
    G w0 A L (fun w => runL ro P all Q ({ dst := d, op := .binOp .eql xt x (.const .nilFunc) yt, type := ty, pos := pos, after := af, guard := none } :: os) (act n ρ ds) w) :=
  o_val rfl (by intro c e; cases e) (fun w _ _ => run_bin (by rw [hx]; exact hg w) (by rw [hx]; exact hr w)) h
/-- What a block holds, written otherwise. -/
theorem G.norm (b : Nat) (cs' : Array Value) {e : TypeId} {cs : Array Value} {f : Obj → List SProp} {Φ : World → Prop} [rb : RepBlk L b (.cells cs e (0, 0)) f] (hc : cs = cs') (h : G w0 A (f (.cells cs' e (0, 0))) Φ) : G w0 A L Φ := by
  subst hc
  obtain ⟨M, p, q⟩ := rb.perm
  exact G.perm (p.trans (q _).symm) h

/-! ### Ordered sets -/
/-- A row, owned, or seen by somebody: then it stays for ever. -/
def row (e : TypeId) (enc : α → List Value) (sz : Nat) (b : Bool) (S : Option Addr) (c : Nat) (ys : List α) : SProp := cond b (psl enc sz S ys) (osl e enc sz S c ys)
instance {e : TypeId} {b : Bool} {c : Nat} {ys : List α} [EncLen enc sz] : HasRd (row e enc sz b S c ys :: L) S enc sz ys := ⟨by
  cases b
  · exact (HasRd.ohead (L := L) (A := S) (e := e) (c := c) (ys := ys)).sees
  · exact (HasRd.head (L := L) (A := S) (ys := ys)).sees⟩
theorem G.see {e : TypeId} {b : Bool} {c : Nat} {ys : List α} {Φ : World → Prop} [EncLen enc sz] (h : G w0 A (psl enc sz S ys :: L) Φ) : G w0 A (row e enc sz b S c ys :: L) Φ := by
  cases b
  · exact G.freeze_slice h
  · exact h
theorem G.pu_in {q : Prop} {Φ : World → Prop} (hq : q) (h : G w0 A (Sl.pu q :: L) Φ) : G w0 A L Φ :=
  G.ent (L := L) (L' := Sl.pu q :: L) (show Ent (sl L) (star (Sl.pu q) (sl L)) from fun _ k x => ⟨hnil, k, (Dj.nil _).symm, .nil _, .refl _, hq, x⟩) h
theorem Take.setback {X Y : SProp} {L M : List SProp} [tk : Take1 L X M] : Take (X :: Y :: M) (Y :: L) [] := ⟨by rw [List.append_nil]; exact (List.Perm.swap _ _ _).trans (tk.perm.symm.cons Y)⟩
theorem G.see1 {e : TypeId} {b : Bool} {c : Nat} {ys : List α} {Φ : World → Prop} [EncLen enc sz] (h : G w0 A (psl enc sz S ys :: L) Φ) : G w0 A ([row e enc sz b S c ys] ++ L) Φ := G.see h
/-- A set at p whose members are these: its list, and whether the list is seen. -/
def SetP (st e : TypeId) (enc : α → List Value) (sz : Nat) (p : Nat) (ys : List α) : SProp :=
  ex fun r : Option Addr × Nat × Bool => sl [cellsB p #[.slice r.1 ys.length r.2.1, .bool r.2.2] st, row e enc sz r.2.2 r.1 r.2.1 ys]
variable {st e : TypeId} {p : Nat} {ys : List α} {M : List SProp} {Φ : World → Prop}
theorem SetP.open [tk : Take1 L (SetP st e enc sz p ys) M] (h : ∀ S c b, G w0 A (cellsB p #[.slice S ys.length c, .bool b] st :: row e enc sz b S c ys :: M) Φ) : G w0 A L Φ :=
  G.perm tk.perm (G.ex fun ⟨S, c, b⟩ => G.open_sl (h S c b))
theorem SetP.shut {S : Option Addr} {c : Nat} {b : Bool} {len : Nat} (hl : ys.length = len) [tk : Take L [cellsB p #[.slice S len c, .bool b] st, row e enc sz b S c ys] M] (h : G w0 A (SetP st e enc sz p ys :: M) Φ) : G w0 A L Φ := by
  subst hl
  refine G.perm tk.perm (G.ent ?_ h)
  refine (sl_append_to _ M).trans (Ent.star ?_ (Ent.refl _))
  exact fun B k x => ⟨(S, c, b), x⟩
end
end Go.Sl
/- Comparisons as linear orders, plainly; and the program's comparisons. -/
namespace Go.Proofs.Ytkglmhgehccmoaa
open Go Go.Sl
attribute [local irreducible] Code.wpIn roundPost bodyPostM runL Ret Meets Begin

/-- A comparison that orders. -/
structure LinCmp {α : Type} (f : α → α → Int) : Prop where
  swap : ∀ a b, f b a = - f a b
  trans : ∀ a b c, f a b < 0 → f b c < 0 → f a c < 0
  eqv : ∀ a b c, f a b = 0 → f a c = f b c
theorem LinCmp.refl {α : Type} {f : α → α → Int} (h : LinCmp f) (a : α) : f a a = 0 := by have := h.swap a a; omega
theorem LinCmp.eqv' {α : Type} {f : α → α → Int} (h : LinCmp f) (a b c : α) (e : f a b = 0) : f c a = f c b := by
  rw [h.swap a c, h.swap b c, h.eqv a b c e]
theorem LinCmp.pull {α β : Type} {f : α → α → Int} (h : LinCmp f) (g : β → α) : LinCmp (fun x y => f (g x) (g y)) :=
  ⟨fun a b => h.swap _ _, fun a b c => h.trans _ _ _, fun a b c => h.eqv _ _ _⟩
def lex {α : Type} (f g : α → α → Int) (a b : α) : Int := if f a b = 0 then g a b else f a b
theorem LinCmp.lex {α : Type} {f g : α → α → Int} (hf : LinCmp f) (hg : LinCmp g) : LinCmp (lex f g) := by
  refine ⟨fun a b => ?_, fun a b c h1 h2 => ?_, fun a b c h => ?_⟩
  · unfold Proofs.Ytkglmhgehccmoaa.lex
    rw [hf.swap a b, hg.swap a b]
    by_cases e : f a b = 0
    · simp [e]
    · rw [if_neg e, if_neg (by omega)]
  · unfold Proofs.Ytkglmhgehccmoaa.lex at *
    by_cases e1 : f a b = 0
    · rw [if_pos e1] at h1
      rw [hf.eqv a b c e1]
      by_cases e2 : f b c = 0
      · rw [if_pos e2] at h2 ⊢; exact hg.trans a b c h1 h2
      · rw [if_neg e2] at h2 ⊢; exact h2
    · rw [if_neg e1] at h1
      by_cases e2 : f b c = 0
      · have : f a c = f a b := (hf.eqv' b c a e2).symm
        rw [this, if_neg e1]; exact h1
      · rw [if_neg e2] at h2
        have := hf.trans a b c h1 h2
        rw [if_neg (by omega)]; exact this
  · unfold Proofs.Ytkglmhgehccmoaa.lex at *
    by_cases e1 : f a b = 0
    · rw [if_pos e1] at h
      rw [hf.eqv a b c e1, hg.eqv a b c h]
    · rw [if_neg e1] at h; exact absurd h e1
def cmpI (a b : Int) : Int := if a < b then -1 else if b < a then 1 else 0
theorem linI : LinCmp cmpI := by
  refine ⟨fun a b => ?_, fun a b c => ?_, fun a b c => ?_⟩ <;> unfold cmpI <;> (repeat' split) <;> omega
theorem less_cons (x y : UInt8) (a b : List UInt8) : Op.bytesLess (x :: a) (y :: b) = true ↔ x.toNat < y.toNat ∨ (x.toNat = y.toNat ∧ Op.bytesLess a b = true) := by
  simp only [Op.bytesLess, Bool.or_eq_true, Bool.and_eq_true, decide_eq_true_eq, beq_iff_eq, UInt8.lt_iff_toNat_lt, ← UInt8.toNat_inj]
theorem less_asym : ∀ a b : List UInt8, Op.bytesLess a b = true → ¬ Op.bytesLess b a = true
  | [], [], h => by simp [Op.bytesLess] at h
  | [], _ :: _, _ => by simp [Op.bytesLess]
  | _ :: _, [], h => by simp [Op.bytesLess] at h
  | x :: a, y :: b, h => by
    rw [less_cons] at h ⊢
    have ih := less_asym a b
    rintro (h2 | ⟨h2, h3⟩)
    · rcases h with h | ⟨h, _⟩ <;> omega
    · rcases h with h | ⟨_, h⟩
      · omega
      · exact ih h h3
theorem less_trans : ∀ a b c : List UInt8, Op.bytesLess a b = true → Op.bytesLess b c = true → Op.bytesLess a c = true
  | _, _, [], _, h => by cases ‹List UInt8› <;> simp [Op.bytesLess] at h
  | _, [], _ :: _, h, _ => by cases ‹List UInt8› <;> simp [Op.bytesLess] at h
  | [], _ :: _, _ :: _, _, _ => by simp [Op.bytesLess]
  | x :: a, y :: b, z :: c, h1, h2 => by
    rw [less_cons] at h1 h2 ⊢
    rcases h1 with h1 | ⟨h1, h1'⟩ <;> rcases h2 with h2 | ⟨h2, h2'⟩
    · left; omega
    · left; omega
    · left; omega
    · right; exact ⟨by omega, less_trans a b c h1' h2'⟩
theorem less_total : ∀ a b : List UInt8, ¬ Op.bytesLess a b = true → ¬ Op.bytesLess b a = true → a = b
  | [], [], _, _ => rfl
  | [], _ :: _, h, _ => by simp [Op.bytesLess] at h
  | _ :: _, [], _, h => by simp [Op.bytesLess] at h
  | x :: a, y :: b, h1, h2 => by
    rw [less_cons] at h1 h2
    have hxy : x.toNat = y.toNat := by
      have : ¬ x.toNat < y.toNat := fun h => h1 (.inl h)
      have : ¬ y.toNat < x.toNat := fun h => h2 (.inl h)
      omega
    rw [UInt8.toNat_inj.1 hxy, less_total a b (fun h => h1 (.inr ⟨hxy, h⟩)) (fun h => h2 (.inr ⟨hxy.symm, h⟩))]
def cmpS (a b : ByteArray) : Int := if Op.bytesLess a.toList b.toList = true then -1 else if Op.bytesLess b.toList a.toList = true then 1 else 0
theorem cmpS_zero {a b : ByteArray} (h : cmpS a b = 0) : a = b := by
  unfold cmpS at h
  by_cases h1 : Op.bytesLess a.toList b.toList = true
  · rw [if_pos h1] at h; omega
  · rw [if_neg h1] at h
    by_cases h2 : Op.bytesLess b.toList a.toList = true
    · rw [if_pos h2] at h; omega
    · exact (toList_inj a b).1 (less_total _ _ h1 h2)
theorem linS : LinCmp cmpS := by
  refine ⟨fun a b => ?_, fun a b c h1 h2 => ?_, fun a b c h => by rw [cmpS_zero h]⟩
  · unfold cmpS
    have := less_asym a.toList b.toList
    by_cases h1 : Op.bytesLess a.toList b.toList = true
    · simp [h1, this h1]
    · by_cases h2 : Op.bytesLess b.toList a.toList = true <;> simp [h1, h2]
  · have key : ∀ x y, cmpS x y < 0 ↔ Op.bytesLess x.toList y.toList = true := fun x y => by
      unfold cmpS
      by_cases h1 : Op.bytesLess x.toList y.toList = true
      · simp [h1]
      · by_cases h2 : Op.bytesLess y.toList x.toList = true <;> simp [h1, h2]
    rw [key] at h1 h2 ⊢
    exact less_trans _ _ _ h1 h2
def SymD.cmp : SymD → SymD → Int := lex (fun a b => cmpI a.kind b.kind) (lex (fun a b => cmpS a.text b.text) (fun a b => cmpI a.n b.n))
theorem cmpI_zero {a b : Int} (h : cmpI a b = 0) : a = b := by unfold cmpI at h; (repeat' split at h) <;> omega
theorem SymD.cmp_zero {a b : SymD} (h : a.cmp b = 0) : a = b := by
  obtain ⟨k, t, n⟩ := a
  obtain ⟨k', t', n'⟩ := b
  simp only [SymD.cmp, lex] at h
  by_cases h1 : cmpI k k' = 0
  · rw [if_pos h1] at h
    by_cases h2 : cmpS t t' = 0
    · rw [if_pos h2] at h
      rw [cmpI_zero h1, cmpS_zero h2, cmpI_zero h]
    · rw [if_neg h2] at h; exact absurd h h2
  · rw [if_neg h1] at h; exact absurd h h1

/-! ### The program's comparisons -/
end Go.Proofs.Ytkglmhgehccmoaa
/- Pages of symbols and numbers; sorted lists; where a thing stands in one. -/
namespace Go.Proofs.Ytkglmhgehccmoaa
open Go Go.Sl
attribute [local irreducible] Code.wpIn roundPost bodyPostM runL Ret Meets Begin

section
variable {α : Type} (f : α → α → Int)
/-- The list rises. -/
def Srt (ys : List α) : Prop := ∀ (i j : Nat) (a b : α), i < j → ys[i]? = some a → ys[j]? = some b → f a b < 0
/-- What a search tells. -/
def FindR (ys : List α) (x : α) (k : Nat) (there : Bool) : Prop :=
  k ≤ ys.length ∧ (there = true → ∃ y, ys[k]? = some y ∧ f y x = 0) ∧ (there = false → (∀ (j : Nat) (y : α), j < k → ys[j]? = some y → f y x < 0) ∧ ∀ (j : Nat) (y : α), k ≤ j → ys[j]? = some y → 0 < f y x)
end
/-- A slice, as a value. -/
structure SlV where
  a : Option Addr
  len : Nat
  cap : Nat
end Go.Proofs.Ytkglmhgehccmoaa
/- Sorted lists: a member put in, taken out, exchanged. Plain law, no program in sight. -/
namespace Go.Proofs.Ytkglmhgehccmoaa
open Go Go.Sl

section
variable {α : Type} {f : α → α → Int} (lf : LinCmp f) {ys : List α} {x y : α} {k : Nat}
theorem get_ins (hk : k ≤ ys.length) (j : Nat) : (ys.take k ++ x :: ys.drop k)[j]? = if j < k then ys[j]? else if j = k then some x else ys[j - 1]? := by
  have h1 : (ys.take k).length = k := by simp; omega
  by_cases h : j < k
  · rw [List.getElem?_append_left (by omega), if_pos h, List.getElem?_take, if_pos h]
  · rw [if_neg h, List.getElem?_append_right (by omega), h1]
    by_cases e : j = k
    · subst e; simp
    · rw [if_neg e]
      obtain ⟨m, hm⟩ : ∃ m, j - k = m + 1 := ⟨j - k - 1, by omega⟩
      rw [hm, List.getElem?_cons_succ, List.getElem?_drop]
      congr 1
      omega
theorem Srt.erase (hs : Srt f ys) (k : Nat) : Srt f (ys.eraseIdx k) := by
  intro i j a b hij ha hb
  rw [List.getElem?_eraseIdx] at ha hb
  split at ha <;> split at hb
  · exact hs i j a b hij ha hb
  · exact hs i (j + 1) a b (by omega) ha hb
  · omega
  · exact hs (i + 1) (j + 1) a b (by omega) ha hb
/-- The member that is one with x. -/
def getM (f : α → α → Int) (ys : List α) (x : α) : Option α := ys.find? fun y => decide (f y x = 0)
theorem getM_none (h : FindR f ys x k false) : getM f ys x = none := by
  obtain ⟨h1, h2⟩ := h.2.2 rfl
  refine List.find?_eq_none.2 fun y hy => ?_
  obtain ⟨j, hj⟩ := List.mem_iff_getElem?.1 hy
  by_cases hjk : j < k
  · have := h1 j y hjk hj; simp; omega
  · have := h2 j y (by omega) hj; simp; omega
include lf
theorem Srt.ins (hs : Srt f ys) (hf : FindR f ys x k false) : Srt f (ys.take k ++ x :: ys.drop k) := by
  obtain ⟨hk, _, h⟩ := hf
  obtain ⟨h1, h2⟩ := h rfl
  intro i j a b hij ha hb
  rw [get_ins hk] at ha hb
  by_cases hi : i < k
  · rw [if_pos hi] at ha
    by_cases hj : j < k
    · rw [if_pos hj] at hb; exact hs i j a b hij ha hb
    · rw [if_neg hj] at hb
      by_cases e : j = k
      · rw [if_pos e] at hb; cases hb; exact h1 i a hi ha
      · rw [if_neg e] at hb; exact hs i (j - 1) a b (by omega) ha hb
  · rw [if_neg hi] at ha
    rw [if_neg (by omega), if_neg (by omega)] at hb
    by_cases e : i = k
    · rw [if_pos e] at ha; cases ha
      have := h2 (j - 1) b (by omega) hb
      have := lf.swap b x
      omega
    · rw [if_neg e] at ha; exact hs (i - 1) (j - 1) a b (by omega) ha hb
theorem Srt.set (hs : Srt f ys) (hy : ys[k]? = some y) (e : f y x = 0) : Srt f (ys.set k x) := by
  have hk : k < ys.length := (List.getElem?_eq_some_iff.1 hy).1
  intro i j a b hij ha hb
  rw [List.getElem?_set] at ha hb
  by_cases hi : k = i
  · rw [if_pos hi, if_pos (by omega)] at ha
    cases ha
    rw [if_neg (by omega)] at hb
    subst hi
    rw [← lf.eqv y x b e]
    exact hs k j y b hij hy hb
  · rw [if_neg hi] at ha
    by_cases hj : k = j
    · rw [if_pos hj, if_pos (by omega)] at hb
      cases hb
      subst hj
      rw [← lf.eqv' y x a e]
      exact hs i k a y hij ha hy
    · rw [if_neg hj] at hb
      exact hs i j a b hij ha hb
/-- Where a thing stands is one place. -/
theorem FindR.one {k' : Nat} (hs : Srt f ys) (h : FindR f ys x k true) (h' : FindR f ys x k' true) : k = k' := by
  obtain ⟨a, ha, ea⟩ := h.2.1 rfl
  obtain ⟨b, hb, eb⟩ := h'.2.1 rfl
  have e2 : f a b = 0 := by
    have h3 := lf.swap b x
    rw [lf.eqv' x b a (by omega)] at ea
    exact ea
  rcases Nat.lt_trichotomy k k' with h3 | h3 | h3
  · have := hs k k' a b h3 ha hb; omega
  · exact h3
  · have := hs k' k b a h3 hb ha
    have := lf.swap a b
    omega
theorem getM_some (hs : Srt f ys) (h : FindR f ys x k true) (hy : ys[k]? = some y) : getM f ys x = some y := by
  have hk := h.2.1 rfl
  obtain ⟨a, ha, ea⟩ := hk
  rw [hy] at ha
  cases ha
  cases hg : getM f ys x with
  | none =>
    have := List.find?_eq_none.1 hg y (List.mem_of_getElem? hy)
    simp [ea] at this
  | some b =>
    have h1 := List.find?_some hg
    have h2 := List.mem_of_find?_eq_some hg
    obtain ⟨j, hj⟩ := List.mem_iff_getElem?.1 h2
    have h3 : FindR f ys x j true := ⟨by have := (List.getElem?_eq_some_iff.1 hj).1; omega, fun _ => ⟨b, hj, by simpa using h1⟩, fun e => by cases e⟩
    have h4 := FindR.one lf hs h h3
    subst h4
    rw [hy] at hj
    exact hj.symm
/-- What is not there has its place all the same. -/
theorem find_none (hs : Srt f ys) (h : getM f ys x = none) : ∃ k, FindR f ys x k false := by
  have hne : ∀ (j : Nat) (a : α), ys[j]? = some a → f a x ≠ 0 := fun j a ha => by
    have := List.find?_eq_none.1 h a (List.mem_of_getElem? ha)
    simpa using this
  have key : ∀ n, n ≤ ys.length → ∃ k, k ≤ n ∧ (∀ (j : Nat) (a : α), j < k → ys[j]? = some a → f a x < 0) ∧ ∀ (j : Nat) (a : α), k ≤ j → j < n → ys[j]? = some a → 0 < f a x := by
    intro n
    induction n with
    | zero => exact fun _ => ⟨0, Nat.le_refl _, fun j a hj => absurd hj (Nat.not_lt_zero j), fun j a _ hj => absurd hj (Nat.not_lt_zero j)⟩
    | succ n ih =>
      intro hn
      obtain ⟨k, hk, h1, h2⟩ := ih (by omega)
      obtain ⟨b, hb⟩ : ∃ b, ys[n]? = some b := ⟨_, List.getElem?_eq_getElem (by omega)⟩
      by_cases hlt : f b x < 0
      · refine ⟨n + 1, Nat.le_refl _, fun j a hj ha => ?_, fun j a h3 h4 => by omega⟩
        by_cases e : j = n
        · subst e; rw [hb] at ha; cases ha; exact hlt
        · exact lf.trans _ _ _ (hs j n a b (by omega) ha hb) hlt
      · refine ⟨k, by omega, h1, fun j a hj hjn ha => ?_⟩
        by_cases e : j = n
        · subst e; rw [hb] at ha; cases ha; have := hne j b hb; omega
        · exact h2 j a hj (by omega) ha
  obtain ⟨k, hk, h1, h2⟩ := key ys.length (Nat.le_refl _)
  exact ⟨k, hk, fun e => (by cases e), fun _ => ⟨h1, fun j a hj ha => h2 j a hj (List.getElem?_eq_some_iff.1 ha).1 ha⟩⟩
/-- One exchanged for another that is one with it: taken out and put in again. -/
theorem replace {k' : Nat} {there : Bool} (hs : Srt f ys) (hy : ys[k]? = some y) (e : f y x = 0) (h : FindR f (ys.eraseIdx k) x k' there) : there = false ∧ (ys.eraseIdx k).take k' ++ x :: (ys.eraseIdx k).drop k' = ys.set k x := by
  have hk : k < ys.length := (List.getElem?_eq_some_iff.1 hy).1
  have low : ∀ j a, j < k → ys[j]? = some a → f a x < 0 := fun j a hj ha => by
    rw [← lf.eqv' y x a e]; exact hs j k a y hj ha hy
  have high : ∀ j a, k < j → ys[j]? = some a → 0 < f a x := fun j a hj ha => by
    have h1 := hs k j y a hj hy ha
    have h2 := lf.swap y a
    rw [← lf.eqv' y x a e]
    omega
  have hne : ∀ j a, (ys.eraseIdx k)[j]? = some a → f a x ≠ 0 := fun j a ha => by
    rw [List.getElem?_eraseIdx] at ha
    split at ha
    · have := low j a ‹_› ha; omega
    · have := high (j + 1) a (by omega) ha; omega
  have ht : there = false := by
    cases there with
    | false => rfl
    | true =>
      obtain ⟨a, ha, ea⟩ := h.2.1 rfl
      exact absurd ea (hne k' a ha)
  subst ht
  refine ⟨rfl, ?_⟩
  obtain ⟨h1, h2⟩ := h.2.2 rfl
  have hlen : (ys.eraseIdx k).length = ys.length - 1 := by rw [List.length_eraseIdx, if_pos hk]
  have hkk : k' = k := by
    rcases Nat.lt_trichotomy k' k with h3 | h3 | h3
    · have hj : k' < ys.length := by omega
      have ha : (ys.eraseIdx k)[k']? = some ys[k'] := by rw [List.getElem?_eraseIdx, if_pos h3, List.getElem?_eq_getElem hj]
      have := h2 k' _ (Nat.le_refl _) ha
      have := low k' _ h3 (List.getElem?_eq_getElem hj)
      omega
    · exact h3
    · have hj : k + 1 < ys.length := by have := h.1; omega
      have ha : (ys.eraseIdx k)[k]? = some ys[k + 1] := by rw [List.getElem?_eraseIdx, if_neg (by omega), List.getElem?_eq_getElem hj]
      have := h1 k _ h3 ha
      have := high (k + 1) _ (by omega) (List.getElem?_eq_getElem hj)
      omega
  subst hkk
  rw [List.eraseIdx_eq_take_drop_succ, List.set_eq_take_append_cons_drop, if_pos hk]
  have h3 : (ys.take k').length = k' := by simp; omega
  rw [List.take_append_of_le_length (by omega), List.take_of_length_le (by omega), List.drop_append_of_le_length (by omega), List.drop_of_length_le (by omega), List.nil_append]
end
/-- What a search tells, and what is passed over. -/
theorem find_dropWhile {α : Type} {f : α → α → Int} (lf : LinCmp f) {ys : List α} {x : α} {k : Nat} {there : Bool} (hs : Srt f ys) (h : FindR f ys x k there) : ys.drop k = ys.dropWhile fun y => decide (f y x < 0) := by
  have h1 : ∀ (j : Nat) (y : α), j < k → ys[j]? = some y → f y x < 0 := by
    cases there with
    | false => exact (h.2.2 rfl).1
    | true =>
      obtain ⟨z, hz, e⟩ := h.2.1 rfl
      intro j y hj hy
      have := hs j k y z hj hy hz
      have h2 := lf.eqv' z x y e
      omega
  have h2 : ∀ (j : Nat) (y : α), k ≤ j → ys[j]? = some y → ¬ f y x < 0 := by
    cases there with
    | false => intro j y hj hy; have := (h.2.2 rfl).2 j y hj hy; omega
    | true =>
      obtain ⟨z, hz, e⟩ := h.2.1 rfl
      intro j y hj hy
      by_cases e2 : j = k
      · subst e2; rw [hz] at hy; cases hy; omega
      · have := hs k j z y (by omega) hz hy
        have h3 := lf.eqv' z x y e
        have h4 := lf.swap z y
        omega
  have h0 := h.1
  clear h hs lf
  induction ys generalizing k with
  | nil => simp
  | cons y ys ih =>
    cases k with
    | zero =>
      have := h2 0 y (Nat.le_refl _) rfl
      simp [this]
    | succ k =>
      have := h1 0 y (by omega) rfl
      simp only [List.drop_succ_cons]
      rw [List.dropWhile_cons_of_pos (by simpa using this)]
      exact ih (fun j z hj hz => h1 (j + 1) z (by omega) (by simpa using hz)) (fun j z hj hz => h2 (j + 1) z (by omega) (by simpa using hz)) (by simpa using h0)
/-- A loop's store, opened till its first round. -/
def Jin {α : Type} (O : List SProp) (J : List α → List SProp) : List α → List SProp
  | [] => O
  | y :: t => J (y :: t)
theorem Jin_snoc {α : Type} (O : List SProp) (J : List α → List SProp) (pre : List α) (x : α) : Jin O J (pre ++ [x]) = J (pre ++ [x]) := by cases pre <;> rfl
theorem Jin_ent {α : Type} {O : List SProp} {J : List α → List SProp} (h : Ent (sl O) (sl (J []))) : ∀ pre, Ent (sl (Jin O J pre)) (sl (J pre))
  | [] => h
  | _ :: _ => .refl _
end Go.Proofs.Ytkglmhgehccmoaa
