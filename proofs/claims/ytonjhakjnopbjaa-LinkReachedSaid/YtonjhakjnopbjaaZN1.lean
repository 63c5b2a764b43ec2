/- Parts of a proof, in order. -/
import Derived.Test.YtonjhakjnopbjaaZL4
import Derived.ArgAppend

set_option linter.unusedSimpArgs false
set_option linter.unusedVariables false
/- Levels of identifiers: what is reached from where. Plain law, no program in sight. -/
namespace Go.Proofs.Ytonjhakjnopbjaa
open Go Go.Sl

def Hop (l : List ElemD) (a b : SymD) : Prop := ∃ e ∈ l, e.id = a ∧ e.value = b ∧ b.kind = 1
inductive Rch (gs : List SymD) (l : List ElemD) (g : SymD) : SymD → Prop
  | base : Rch gs l g g
  | step {a b : SymD} : Rch gs l g a → Hop l a b → b ∉ gs → Rch gs l g b
def LevIs (gs : List SymD) (l : List ElemD) (s : SymD) (n : Int) : Prop :=
  ∃ (i : Nat) (g : SymD), n = (i : Int) + 1 ∧ gs[i]? = some g ∧ Rch gs l g s ∧ ∀ (j : Nat) (h : SymD), j < i → gs[j]? = some h → ¬ Rch gs l h s
theorem Rch.goal {gs : List SymD} {l : List ElemD} {g s : SymD} (h : Rch gs l g s) (hs : s ∈ gs) : s = g := by
  cases h with
  | base => rfl
  | step _ _ hn => exact absurd hs hn
theorem LevIs.pos {gs : List SymD} {l : List ElemD} {s : SymD} {n : Int} (h : LevIs gs l s n) : 1 ≤ n ∧ n ≤ gs.length := by
  obtain ⟨i, g, rfl, hg, _⟩ := h
  have := (List.getElem?_eq_some_iff.1 hg).1
  omega
theorem LevIs.le {gs : List SymD} {l : List ElemD} {s : SymD} {n : Int} (h : LevIs gs l s n) {j : Nat} {g : SymD} (hg : gs[j]? = some g) (hr : Rch gs l g s) : n ≤ (j : Int) + 1 := by
  obtain ⟨i, g', rfl, hg', _, hm⟩ := h
  by_cases hlt : j < i
  · exact absurd hr (hm j g hlt hg)
  · omega
theorem LevIs.uniq {gs : List SymD} {l : List ElemD} {s : SymD} {n m : Int} (h : LevIs gs l s n) (k : LevIs gs l s m) : n = m := by
  obtain ⟨i, g, rfl, hg, hr, hm⟩ := id h
  obtain ⟨j, g', rfl, hg', hr', hm'⟩ := id k
  have h1 := h.le hg' hr'
  have h2 := k.le hg hr
  omega
theorem LevIs.ex {gs : List SymD} {l : List ElemD} {s : SymD} : ∀ (i : Nat) {g : SymD}, gs[i]? = some g → Rch gs l g s → ∃ n, LevIs gs l s n := fun i => by
  induction i using Nat.strongRecOn with
  | _ i ih =>
    intro g hg hr
    by_cases h : ∃ j h, j < i ∧ gs[j]? = some h ∧ Rch gs l h s
    · obtain ⟨j, h, hj, hgj, hrj⟩ := h
      exact ih j hj hgj hrj
    · exact ⟨_, i, g, rfl, hg, hr, fun j h' hj hgj hrj => h ⟨j, h', hj, hgj, hrj⟩⟩
open Classical in
/-- The level of a symbol; 0: it has none. -/
noncomputable def rlev (gs : List SymD) (l : List ElemD) (s : SymD) : Int := if h : ∃ n, LevIs gs l s n then Classical.choose h else 0
theorem lev_of {gs : List SymD} {l : List ElemD} {s : SymD} {n : Int} (h : LevIs gs l s n) : rlev gs l s = n := by
  unfold rlev
  rw [dif_pos ⟨n, h⟩]
  exact (Classical.choose_spec (p := fun n => LevIs gs l s n) ⟨n, h⟩).uniq h
theorem lev_none {gs : List SymD} {l : List ElemD} {s : SymD} (h : ∀ n, ¬ LevIs gs l s n) : rlev gs l s = 0 := by
  unfold rlev
  rw [dif_neg fun ⟨n, e⟩ => h n e]
theorem lev_is {gs : List SymD} {l : List ElemD} {s : SymD} (h : rlev gs l s ≠ 0) : LevIs gs l s (rlev gs l s) := by
  by_cases e : ∃ n, LevIs gs l s n
  · obtain ⟨n, hn⟩ := e
    rw [lev_of hn]; exact hn
  · exact absurd (lev_none fun n hn => e ⟨n, hn⟩) h
theorem lev_range (gs : List SymD) (l : List ElemD) (s : SymD) : 0 ≤ rlev gs l s ∧ rlev gs l s ≤ gs.length := by
  by_cases h : rlev gs l s = 0
  · omega
  · have := (lev_is h).pos; omega
theorem lev_ne {gs : List SymD} {l : List ElemD} {s : SymD} : rlev gs l s ≠ 0 ↔ ∃ (i : Nat) (g : SymD), gs[i]? = some g ∧ Rch gs l g s := by
  constructor
  · intro h
    obtain ⟨i, g, _, hg, hr, _⟩ := lev_is h
    exact ⟨i, g, hg, hr⟩
  · rintro ⟨i, g, hg, hr⟩
    obtain ⟨n, hn⟩ := LevIs.ex i hg hr
    rw [lev_of hn]
    have := hn.pos; omega
theorem lev_le {gs : List SymD} {l : List ElemD} {s : SymD} {j : Nat} {g : SymD} (hg : gs[j]? = some g) (hr : Rch gs l g s) : 1 ≤ rlev gs l s ∧ rlev gs l s ≤ (j : Int) + 1 := by
  obtain ⟨n, hn⟩ := LevIs.ex j hg hr
  rw [lev_of hn]
  exact ⟨hn.pos.1, hn.le hg hr⟩

/-! ### How levels are found -/
def updF (f : SymD → Int) (v : SymD) (n : Int) (s : SymD) : Int := if s.cmp v = 0 then n else f s
theorem updF_same (f : SymD → Int) (v : SymD) (n : Int) : updF f v n v = n := by simp [updF, linSym.refl]
theorem updF_ne (f : SymD → Int) {v s : SymD} (n : Int) (h : s ≠ v) : updF f v n s = f s := by
  unfold updF
  rw [if_neg fun e => h (SymD.cmp_zero e)]
/-- The first goals have their levels. -/
structure Init (gs : List SymD) (l : List ElemD) (k : Nat) (f : SymD → Int) : Prop where
  iff : ∀ s, f s ≠ 0 ↔ s ∈ gs.take k
  snd : ∀ s, f s ≠ 0 → LevIs gs l s (f s)
/-- All that is reached from the first i goals has its level. -/
structure Stage (gs : List SymD) (l : List ElemD) (i : Nat) (f : SymD → Int) : Prop where
  goal : ∀ g ∈ gs, f g ≠ 0
  snd : ∀ s, f s ≠ 0 → LevIs gs l s (f s)
  le : ∀ s, s ∉ gs → f s ≤ i
  cls : ∀ a b, f a ≠ 0 → f a ≤ i → Hop l a b → f b ≠ 0
/-- On the way with goal i: what is to do; what is being done. -/
structure Work (gs : List SymD) (l : List ElemD) (i : Nat) (todo : List SymD) (cur : Option SymD) (f : SymD → Int) : Prop where
  goal : ∀ g ∈ gs, f g ≠ 0
  snd : ∀ s, f s ≠ 0 → LevIs gs l s (f s)
  le : ∀ s, s ∉ gs → f s ≤ (i : Int) + 1
  cls : ∀ a b, f a ≠ 0 → f a ≤ (i : Int) + 1 → a ∉ todo → cur ≠ some a → Hop l a b → f b ≠ 0
  td : ∀ a ∈ todo, f a = (i : Int) + 1
  cr : ∀ a, cur = some a → f a = (i : Int) + 1
section
variable {gs : List SymD} {l : List ElemD} {f : SymD → Int}
theorem Init.zero : Init gs l 0 (fun _ => 0) := ⟨fun s => by simp, fun s h => absurd rfl h⟩
theorem Init.old {k : Nat} (h : Init gs l k f) {g : SymD} (hg : gs[k]? = some g) (hf : f g ≠ 0) : Init gs l (k + 1) f := ⟨fun s => by
  rw [h.iff s, List.take_add_one, hg]
  simp only [Option.toList_some, List.mem_append, List.mem_singleton]
  exact ⟨.inl, fun e => e.elim id fun e => by rw [e]; exact (h.iff g).1 hf⟩, h.snd⟩
theorem Init.new {k : Nat} (h : Init gs l k f) {g : SymD} (hg : gs[k]? = some g) (hf : f g = 0) : Init gs l (k + 1) (updF f g ((k : Int) + 1)) := by
  have hno : g ∉ gs.take k := fun e => (h.iff g).2 e hf
  refine ⟨fun s => ?_, fun s hs => ?_⟩
  · rw [List.take_add_one, hg]
    simp only [Option.toList_some, List.mem_append, List.mem_singleton]
    by_cases e : s = g
    · subst e
      rw [updF_same]
      exact ⟨fun _ => .inr rfl, fun _ => by omega⟩
    · rw [updF_ne f _ e, h.iff s]
      simp [e]
  · by_cases e : s = g
    · subst e
      rw [updF_same]
      refine ⟨k, s, rfl, hg, .base, fun j h' hj hgj hr => hno ?_⟩
      have : s = h' := hr.goal (List.mem_of_getElem? hg)
      subst this
      exact List.mem_of_getElem? (by rw [List.getElem?_take, if_pos hj]; exact hgj)
    · rw [updF_ne f _ e] at hs ⊢
      exact h.snd s hs
theorem Init.stage (h : Init gs l gs.length f) : Stage gs l 0 f := by
  have e : gs.take gs.length = gs := List.take_length
  refine ⟨fun g hg => (h.iff g).2 (by rw [e]; exact hg), h.snd, fun s hs => ?_, fun a b ha hl _ => ?_⟩
  · have : ¬ f s ≠ 0 := fun hf => hs (by have := (h.iff s).1 hf; rwa [e] at this)
    omega
  · have := (h.snd a ha).pos
    omega
theorem Work.old {i : Nat} {todo : List SymD} {cur : Option SymD} (h : Work gs l i todo cur f) {j : Nat} {g s : SymD} (hj : j < i) (hg : gs[j]? = some g) (hr : Rch gs l g s) : f s ≠ 0 := by
  induction hr with
  | base => exact h.goal g (List.mem_of_getElem? hg)
  | @step a b hra hab _ ih =>
    have h1 := (h.snd a ih).le hg hra
    refine h.cls a b ih (by omega) (fun ht => ?_) (fun hc => ?_) hab
    · have := h.td a ht; omega
    · have := h.cr a hc; omega
theorem Stage.begin {i : Nat} (h : Stage gs l i f) {g : SymD} (hg : gs[i]? = some g) (hf : f g = (i : Int) + 1) : Work gs l i [g] none f := by
  refine ⟨h.goal, h.snd, fun s hs => by have := h.le s hs; omega, fun a b ha hle hn _ hab => ?_, fun a ha => by simp at ha; rw [ha, hf], fun a e => by cases e⟩
  by_cases hle' : f a ≤ (i : Int)
  · exact h.cls a b ha hle' hab
  · have hfa : f a = (i : Int) + 1 := by omega
    by_cases hm : a ∈ gs
    · obtain ⟨i', g', hi', hg', hr, _⟩ := h.snd a ha
      have : i' = i := by omega
      subst this
      rw [hg] at hg'
      cases hg'
      exact absurd (hr.goal hm) (by simpa using hn)
    · have := h.le a hm; omega
theorem Stage.skip {i : Nat} (h : Stage gs l i f) {g : SymD} (hg : gs[i]? = some g) (hf : f g ≠ (i : Int) + 1) : Stage gs l (i + 1) f := by
  refine ⟨h.goal, h.snd, fun s hs => by have := h.le s hs; omega, fun a b ha hle hab => ?_⟩
  by_cases hle' : f a ≤ (i : Int)
  · exact h.cls a b ha hle' hab
  · by_cases hm : a ∈ gs
    · obtain ⟨i', g', hi', hg', hr, _⟩ := h.snd a ha
      have : i' = i := by omega
      subst this
      rw [hg] at hg'
      cases hg'
      have := hr.goal hm
      subst this
      exact absurd (by omega) hf
    · have := h.le a hm; omega
theorem Work.pop {i : Nat} {s : SymD} {todo : List SymD} (h : Work gs l i (s :: todo) none f) : Work gs l i todo (some s) f :=
  ⟨h.goal, h.snd, h.le, fun a b ha hle hn hc hab => h.cls a b ha hle (fun e => by
    rcases List.mem_cons.1 e with e | e
    · exact hc (by rw [e])
    · exact hn e) (by simp) hab, fun a ha => h.td a (List.mem_cons_of_mem _ ha), fun a e => by cases e; exact h.td _ List.mem_cons_self⟩
theorem Work.add {i : Nat} {s v g : SymD} {todo : List SymD} (h : Work gs l i todo (some s) f) (hg : gs[i]? = some g) (he : Hop l s v) (hv : f v = 0) : Work gs l i (todo ++ [v]) (some s) (updF f v ((i : Int) + 1)) := by
  have hvg : v ∉ gs := fun e => h.goal v e hv
  have hne : ∀ a, f a ≠ 0 → a ≠ v := fun a ha e => by rw [e] at ha; exact ha hv
  have hgr : ∀ a, f a ≠ 0 → updF f v ((i : Int) + 1) a = f a := fun a ha => updF_ne f _ (hne a ha)
  have hnz : ∀ a, f a ≠ 0 → updF f v ((i : Int) + 1) a ≠ 0 := fun a ha => by rw [hgr a ha]; exact ha
  have hs := h.cr s rfl
  refine ⟨fun a ha => hnz a (h.goal a ha), fun a ha => ?_, fun a ha => ?_, fun a b ha hle hn hc hab => ?_, fun a ha => ?_, fun a e => ?_⟩
  · by_cases e : a = v
    · subst e
      rw [updF_same]
      refine ⟨i, g, rfl, hg, ?_, fun j h' hj hgj hr => h.old hj hgj hr hv⟩
      obtain ⟨i', g', hi', hg', hr, _⟩ := h.snd s (by omega)
      have : i' = i := by omega
      subst this
      rw [hg] at hg'
      cases hg'
      exact .step hr he hvg
    · rw [updF_ne f _ e] at ha ⊢
      exact h.snd a ha
  · by_cases e : a = v
    · subst e; rw [updF_same]; omega
    · rw [updF_ne f _ e]; exact h.le a ha
  · have hav : a ≠ v := fun e => hn (by simp [e])
    rw [updF_ne f _ hav] at ha hle
    by_cases e : b = v
    · subst e; rw [updF_same]; omega
    · rw [updF_ne f _ e]
      exact h.cls a b ha hle (fun e => hn (List.mem_append_left _ e)) hc hab
  · rcases List.mem_append.1 ha with ha | ha
    · have := h.td a ha
      rw [hgr a (by omega)]; exact this
    · rw [List.mem_singleton] at ha
      subst ha
      exact updF_same f a _
  · have := h.cr a e
    rw [hgr a (by omega)]; exact this
theorem Work.shut {i : Nat} {s : SymD} {todo : List SymD} (h : Work gs l i todo (some s) f) (hs : ∀ b, Hop l s b → f b ≠ 0) : Work gs l i todo none f :=
  ⟨h.goal, h.snd, h.le, fun a b ha hle hn _ hab => by
    by_cases e : a = s
    · subst e; exact hs b hab
    · exact h.cls a b ha hle hn (fun e' => e (by cases e'; rfl)) hab, h.td, fun a e => by cases e⟩
theorem Work.done {i : Nat} (h : Work gs l i [] none f) : Stage gs l (i + 1) f :=
  ⟨h.goal, h.snd, fun s hs => by have := h.le s hs; omega, fun a b ha hle hab => h.cls a b ha (by omega) (by simp) (by simp) hab⟩
theorem Stage.all (h : Stage gs l gs.length f) (s : SymD) : f s = rlev gs l s := by
  by_cases hs : f s = 0
  · rw [hs, lev_none]
    rintro n ⟨i, g, hn, hg, hr, hm⟩
    have hi := (List.getElem?_eq_some_iff.1 hg).1
    refine absurd hs ?_
    clear hs hm hn
    induction hr with
    | base => exact h.goal g (List.mem_of_getElem? hg)
    | @step a b hra hab _ ih =>
      have := (h.snd a ih).pos
      exact h.cls a b ih (by omega) hab
  · exact (lev_of (h.snd s hs)).symm
end
end Go.Proofs.Ytonjhakjnopbjaa
/- Laws of levels. Plain law, no program in sight. -/
namespace Go.Proofs.Ytonjhakjnopbjaa
open Go Go.Sl

theorem Hop.mono {l l' : List ElemD} {a b : SymD} (h : Hop l a b) (hs : ∀ e ∈ l, e ∈ l') : Hop l' a b := let ⟨e, he, r⟩ := h; ⟨e, hs e he, r⟩
theorem Rch.mono {gs : List SymD} {l l' : List ElemD} {g s : SymD} (h : Rch gs l g s) (hs : ∀ e ∈ l, e ∈ l') : Rch gs l' g s := by
  induction h with
  | base => exact .base
  | step _ he hn ih => exact .step ih (he.mono hs) hn
/-- Where none counts as above all others. -/
noncomputable def levT (gs : List SymD) (l : List ElemD) (s : SymD) : Int := if rlev gs l s > 0 then rlev gs l s else 1000
theorem levT_mono {gs : List SymD} {l l' : List ElemD} (s : SymD) (hg : gs.length ≤ 10) (hs : ∀ e ∈ l, e ∈ l') : levT gs l' s ≤ levT gs l s := by
  have h1 := lev_range gs l s
  have h2 := lev_range gs l' s
  unfold levT
  by_cases h : rlev gs l s > 0
  · rw [if_pos h]
    obtain ⟨i, g, hi, hgi, hr, _⟩ := lev_is (by omega : rlev gs l s ≠ 0)
    have := lev_le hgi (hr.mono hs)
    rw [if_pos (by omega)]
    omega
  · rw [if_neg h]
    split <;> omega
/-- One goal more, behind the others, that had no level. -/
theorem Rch.more {gs : List SymD} {l : List ElemD} {g x s : SymD} (hn : ∀ (i : Nat) (h : SymD), gs[i]? = some h → ¬ Rch gs l h x) {i : Nat} (hi : gs[i]? = some g) (h : Rch gs l g s) : Rch (gs ++ [x]) l g s := by
  induction h with
  | base => exact .base
  | @step a b hra he hb ih =>
    refine .step ih he fun e => ?_
    rcases List.mem_append.1 e with e | e
    · exact hb e
    · rw [List.mem_singleton] at e; subst e; exact hn i g hi (.step hra he hb)
theorem Rch.less {gs : List SymD} {l : List ElemD} {g x s : SymD} (h : Rch (gs ++ [x]) l g s) : Rch gs l g s := by
  induction h with
  | base => exact .base
  | step _ he hb ih => exact .step ih he fun e => hb (List.mem_append_left _ e)
theorem lev_more {gs : List SymD} {l : List ElemD} {x : SymD} (hx : ¬ rlev gs l x > 0) (s : SymD) :
    (rlev gs l s > 0 → rlev (gs ++ [x]) l s = rlev gs l s) ∧ (rlev gs l s = 0 → rlev (gs ++ [x]) l s = 0 ∨ rlev (gs ++ [x]) l s = (gs.length : Int) + 1) := by
  have hr0 := lev_range gs l x
  have hn : ∀ (i : Nat) (h : SymD), gs[i]? = some h → ¬ Rch gs l h x := fun i h hi hr => by
    have := lev_le hi hr; omega
  have hget : ∀ {i : Nat} {h : SymD}, gs[i]? = some h → (gs ++ [x])[i]? = some h := fun {i h} hi => by
    rw [List.getElem?_append_left (List.getElem?_eq_some_iff.1 hi).1]; exact hi
  have hback : ∀ {i : Nat} {h : SymD}, (gs ++ [x])[i]? = some h → i < gs.length → gs[i]? = some h := fun {i h} hi hl => by
    rwa [List.getElem?_append_left hl] at hi
  constructor
  · intro h
    obtain ⟨i, g, hi, hgi, hr, hm⟩ := lev_is (by omega : rlev gs l s ≠ 0)
    have hlt := (List.getElem?_eq_some_iff.1 hgi).1
    rw [hi]
    exact lev_of ⟨i, g, rfl, hget hgi, hr.more hn hgi, fun j h' hj hgj hrj => hm j h' hj (hback hgj (by omega)) hrj.less⟩
  · intro h
    by_cases h2 : rlev (gs ++ [x]) l s = 0
    · exact .inl h2
    · right
      obtain ⟨i, g, hi, hgi, hr, hm⟩ := lev_is h2
      have hlt := (List.getElem?_eq_some_iff.1 hgi).1
      rw [List.length_append, List.length_singleton] at hlt
      by_cases hl : i < gs.length
      · have := lev_le (hback hgi hl) hr.less
        omega
      · omega
theorem lev_last {gs : List SymD} {l : List ElemD} {x : SymD} (hx : ¬ rlev gs l x > 0) : rlev (gs ++ [x]) l x = (gs.length : Int) + 1 := by
  have hr0 := lev_range gs l x
  refine lev_of ⟨gs.length, x, rfl, by simp, .base, fun j h hj hgj hr => ?_⟩
  rw [List.getElem?_append_left hj] at hgj
  have := lev_le hgj hr.less
  omega
/-- A value that is no goal: the least of the levels of those whose value it is. -/
theorem lev_step {gs : List SymD} {l : List ElemD} {e : ElemD} (he : e ∈ l) (hk : e.value.kind = 1) (hg : e.value ∉ gs) (hl : gs.length ≤ 10) : levT gs l e.value ≤ levT gs l e.id := by
  have h1 := lev_range gs l e.value
  have h2 := lev_range gs l e.id
  unfold levT
  by_cases h : rlev gs l e.id > 0
  · rw [if_pos h]
    obtain ⟨i, g, hi, hgi, hr, _⟩ := lev_is (by omega : rlev gs l e.id ≠ 0)
    have := lev_le hgi (hr.step ⟨e, he, rfl, rfl, hk⟩ hg)
    rw [if_pos (by omega)]
    omega
  · rw [if_neg h]
    split <;> omega
theorem lev_from {gs : List SymD} {l : List ElemD} {v : SymD} (hg : v ∉ gs) (h : rlev gs l v > 0) (hl : gs.length ≤ 10) : ∃ e ∈ l, e.value = v ∧ levT gs l e.id ≤ levT gs l v := by
  obtain ⟨i, g, hi, hgi, hr, _⟩ := lev_is (by omega : rlev gs l v ≠ 0)
  cases hr with
  | base => exact absurd (List.mem_of_getElem? hgi) hg
  | @step a b hra he hb =>
    obtain ⟨e, hel, rfl, rfl, hk⟩ := he
    refine ⟨e, hel, rfl, ?_⟩
    have := lev_le hgi hra
    unfold levT
    rw [if_pos (by omega), if_pos h]
    omega
/-- The least of the levels of those whose value it is, from n on. -/
noncomputable def leastF (gs : List SymD) (l : List ElemD) (v : SymD) (n : Int) : List ElemD → Int
  | [] => n
  | e :: es => leastF gs l v (if e.value.beq v then min n (levT gs l e.id) else n) es
theorem leastF_snoc (gs : List SymD) (l : List ElemD) (v : SymD) (e : ElemD) : ∀ (es : List ElemD) (n : Int), leastF gs l v n (es ++ [e]) = if e.value.beq v then min (leastF gs l v n es) (levT gs l e.id) else leastF gs l v n es
  | [], n => rfl
  | x :: es, n => by
    simp only [List.cons_append, leastF]
    exact leastF_snoc gs l v e es _
theorem leastF_le (gs : List SymD) (l : List ElemD) (v : SymD) : ∀ (es : List ElemD) (n : Int), leastF gs l v n es ≤ n ∧ (∀ e ∈ es, e.value = v → leastF gs l v n es ≤ levT gs l e.id) ∧ (leastF gs l v n es = n ∨ ∃ e ∈ es, e.value = v ∧ leastF gs l v n es = levT gs l e.id)
  | [], n => ⟨Int.le_refl _, by simp, .inl rfl⟩
  | x :: es, n => by
    simp only [leastF]
    obtain ⟨h1, h2, h3⟩ := leastF_le gs l v es (if x.value.beq v then min n (levT gs l x.id) else n)
    by_cases hb : x.value.beq v = true
    · rw [if_pos hb] at h1 h2 h3 ⊢
      have hv := (SymD.beq_iff _ _).1 hb
      refine ⟨by omega, fun e he hev => ?_, ?_⟩
      · rcases List.mem_cons.1 he with rfl | he
        · omega
        · exact h2 e he hev
      · rcases h3 with h3 | ⟨e, he, hev, h3⟩
        · by_cases hc : n ≤ levT gs l x.id
          · left; omega
          · exact .inr ⟨x, List.mem_cons_self, hv, by omega⟩
        · exact .inr ⟨e, List.mem_cons_of_mem _ he, hev, h3⟩
    · rw [if_neg hb] at h1 h2 h3 ⊢
      refine ⟨h1, fun e he hev => ?_, ?_⟩
      · rcases List.mem_cons.1 he with rfl | he
        · exact absurd ((SymD.beq_iff _ _).2 hev) hb
        · exact h2 e he hev
      · rcases h3 with h3 | ⟨e, he, hev, h3⟩
        · exact .inl h3
        · exact .inr ⟨e, List.mem_cons_of_mem _ he, hev, h3⟩
theorem steps_law {gs : List SymD} {l : List ElemD} {v : SymD} (hk : v.kind = 1) (hg : v ∉ gs) (hl : gs.length ≤ 10) :
    levT gs l v ≤ leastF gs l v 1000 l ∧ (levT gs l v < 1000 → levT gs l v = leastF gs l v 1000 l) := by
  obtain ⟨h1, h2, h3⟩ := leastF_le gs l v l 1000
  have hr := lev_range gs l v
  have h4 : levT gs l v ≤ leastF gs l v 1000 l := by
    rcases h3 with h3 | ⟨e, he, hev, h3⟩
    · rw [h3]; unfold levT; split <;> omega
    · rw [h3]; subst hev; exact lev_step he hk hg hl
  refine ⟨h4, fun hlt => ?_⟩
  have hp : rlev gs l v > 0 := by
    unfold levT at hlt
    split at hlt <;> omega
  obtain ⟨e, he, hev, hle⟩ := lev_from hg hp hl
  have := h2 e he hev
  omega
end Go.Proofs.Ytonjhakjnopbjaa
/- Pages of an ordered map, for one type of keys and one of values. -/
namespace Go.Proofs.Ytonjhakjnopbjaa
open Go Go.Sl
attribute [local irreducible] Code.wpIn roundPost bodyPostM runL Ret Meets Begin

structure PgSY where
  k : SymD
  v : Option Nat
def PgSY.vval (v : Option Nat) : Value := .pointer (v.map fun b => ⟨b, 0, none⟩)
def PgSY.val (p : PgSY) : Value := .agg #[.int .i64 p.k.kind, .string p.k.text, .int .i64 p.k.n, PgSY.vval p.v]
def PgSY.enc (p : PgSY) : List Value := p.val.cells.toList
/-- As an argument of a call: one value. -/
def PgSY.enc' (p : PgSY) : List Value := [p.val]
instance : EncLen PgSY.enc 4 := ⟨fun _ => rfl, fun e u h => by simp [PgSY.enc, PgSY.val, Value.cells] at h; rcases h with h | h | h | h <;> subst h <;> rfl⟩
def PgSY.cmp (a b : PgSY) : Int := a.k.cmp b.k
theorem PgSY.lin : LinCmp PgSY.cmp := linSym.pull PgSY.k
def PgSY.enc2 (p : PgSY) : List Value := [p.k.val, PgSY.vval p.v]
def PgSY.zero : PgSY := ⟨⟨0, ByteArray.empty, 0⟩, none⟩
theorem PgSY.cmp_spec (a b : PgSY) : Ctr Try.prog 139 [a.val, b.val] [] (fun v M => v = .int .i64 (a.cmp b) ∧ M = []) := by
  refine spec_of Try.func139 rfl Try.ntmps139 rfl fun w0 F => ?_
  repeat (first | refine g_endt ?_ | refine g_end ?_ | refine g_then ?_ | refine g_in_normal ?_ | refine g_then_ret ?_ | refine g_in_ret ?_ | refine g_then_exit ?_ | refine g_in_exit rfl ?_ | refine g_in_exit_ne (by decide) ?_ | refine g_seq ?_ | refine g_region ?_ | refine g_block ?_ | refine g_ret ?_ | refine g_return_n ?_ | refine g_exit ?_ | refine g_skip ?_)
  refine o_boxc a.val.cells rfl rfl fun p => ?_
  refine o_boxc b.val.cells rfl rfl fun q => ?_
  refine o_assign ?_
  first | refine g_endt ?_ | refine g_end ?_
  repeat (first | refine g_endt ?_ | refine g_end ?_ | refine g_then ?_ | refine g_in_normal ?_ | refine g_then_ret ?_ | refine g_in_ret ?_ | refine g_then_exit ?_ | refine g_in_exit rfl ?_ | refine g_in_exit_ne (by decide) ?_ | refine g_seq ?_ | refine g_region ?_ | refine g_block ?_ | refine g_ret ?_ | refine g_return_n ?_ | refine g_exit ?_ | refine g_skip ?_)
  refine o_field rfl ?_
  refine o_loadN (v := a.k.val) rfl rfl rfl ?_
  refine o_iface rfl (fun w => by kernel_rfl) ?_
  refine o_field rfl ?_
  refine o_loadN (v := b.k.val) rfl rfl rfl ?_
  refine o_invoke (CompareSym_spec a.k b.k) rfl rfl (fun w => by kernel_rfl) ?_
  rintro _ _ ⟨rfl, rfl⟩
  refine o_assign ?_
  first | refine g_endt ?_ | refine g_end ?_
  repeat (first | refine g_endt ?_ | refine g_end ?_ | refine g_then ?_ | refine g_in_normal ?_ | refine g_then_ret ?_ | refine g_in_ret ?_ | refine g_then_exit ?_ | refine g_in_exit rfl ?_ | refine g_in_exit_ne (by decide) ?_ | refine g_seq ?_ | refine g_region ?_ | refine g_block ?_ | refine g_ret ?_ | refine g_return_n ?_ | refine g_exit ?_ | refine g_skip ?_)
  exact ret1 rfl (resT (v := .int .i64 (a.cmp b)) rfl) ⟨rfl, rfl⟩
end Go.Proofs.Ytonjhakjnopbjaa
/- An ordered set's functions, for one type of members: find, own. -/
namespace Go.Proofs.Ytonjhakjnopbjaa
open Go Go.Sl
attribute [local irreducible] Code.wpIn roundPost bodyPostM runL Ret Meets Begin

abbrev SetASY (p : Nat) (ys : List PgSY) : SProp := SetP 143 126 PgSY.enc 4 p ys
section
variable {w0 : World} {A : SProp} {L M : List SProp} {Φ : World → Prop}
theorem openSY (p : Nat) (ys : List PgSY) [tk : Take1 L (SetASY p ys) M] (h : ∀ S c b, G w0 A (cellsB p #[.slice S ys.length c, .bool b] 143 :: row 126 PgSY.enc 4 b S c ys :: M) Φ) : G w0 A L Φ := SetP.open h
theorem shutSY (p : Nat) (ys : List PgSY) (S : Option Addr) (c : Nat) (b : Bool) {len : Nat} (hl : ys.length = len) [tk : Take L [cellsB p #[.slice S len c, .bool b] 143, row 126 PgSY.enc 4 b S c ys] M] (h : G w0 A (SetASY p ys :: M) Φ) : G w0 A L Φ := SetP.shut (S := S) (c := c) (b := b) hl h
theorem shutFSY (p : Nat) (ys : List PgSY) (S : Option Addr) (c : Nat) {len : Nat} (hl : ys.length = len) [tk : Take L [cellsB p #[.slice S len c, .bool false] 143, osl 126 PgSY.enc 4 S c ys] M] (h : G w0 A (SetASY p ys :: M) Φ) : G w0 A L Φ := SetP.shut (S := S) (c := c) (b := false) hl (tk := tk) h
theorem shutTSY (p : Nat) (ys : List PgSY) (S : Option Addr) (c : Nat) {len : Nat} (hl : ys.length = len) [tk : Take L [cellsB p #[.slice S len c, .bool true] 143, psl PgSY.enc 4 S ys] M] (h : G w0 A (SetASY p ys :: M) Φ) : G w0 A L Φ := SetP.shut (S := S) (c := c) (b := true) hl (tk := tk) h
end
theorem findSY_spec (p : Nat) (ys : List PgSY) (x : PgSY) (hs : Srt PgSY.cmp ys) (hl : ys.length ≤ 1000000000) : Ctr Try.prog 100 [.pointer (some ⟨p, 0, none⟩), x.val] [SetASY p ys]
    (fun v M => ∃ (k : Nat) (there : Bool), v = .tuple #[.int .i64 (k : Int), .bool there] ∧ M = [SetASY p ys] ∧ FindR PgSY.cmp ys x k there) := by
  refine spec_of Try.func100 rfl Try.ntmps100 rfl fun w0 F => ?_
  repeat (first | refine g_endt ?_ | refine g_end ?_ | refine g_then ?_ | refine g_in_normal ?_ | refine g_then_ret ?_ | refine g_in_ret ?_ | refine g_then_exit ?_ | refine g_in_exit rfl ?_ | refine g_in_exit_ne (by decide) ?_ | refine g_seq ?_ | refine g_region ?_ | refine g_block ?_ | refine g_ret ?_ | refine g_return_n ?_ | refine g_exit ?_ | refine g_skip ?_)
  refine openSY p ys fun S c b => ?_
  refine o_boxc x.val.cells rfl rfl fun q => ?_
  refine o_assign ?_
  refine o_assign ?_
  first | refine g_endt ?_ | refine g_end ?_
  repeat (first | refine g_endt ?_ | refine g_end ?_ | refine g_then ?_ | refine g_in_normal ?_ | refine g_then_ret ?_ | refine g_in_ret ?_ | refine g_then_exit ?_ | refine g_in_exit rfl ?_ | refine g_in_exit_ne (by decide) ?_ | refine g_seq ?_ | refine g_region ?_ | refine g_block ?_ | refine g_ret ?_ | refine g_return_n ?_ | refine g_exit ?_ | refine g_skip ?_)
  refine g_draw [] [0,1,2,3,4,5,6] [cellsB p #[.slice S ys.length c, .bool b] 143] mixed rfl ?_
  refine ob_q rfl rfl ⟨_, fun X Q h => o_move (g_end (h _ _ ⟨rfl, rfl⟩)), ?_⟩
  refine ob_q rfl rfl ⟨_, fun X Q h => o_nil rfl (g_end (h _ _ ⟨rfl, rfl⟩)), ?_⟩
  refine ob_q rfl rfl ⟨_, fun X Q h => o_field rfl (g_end (h _ _ ⟨rfl, rfl⟩)), ?_⟩
  refine ob_q rfl rfl ⟨_, fun X Q h => o_load1 rfl rfl (g_end (h _ _ ⟨rfl, rfl⟩)), ?_⟩
  refine ob_q rfl rfl ⟨_, fun X Q h => o_len rfl rfl (g_end (h _ _ ⟨rfl, rfl⟩)), ?_⟩
  refine ob_q rfl rfl ⟨_, fun X Q h => o_assign (g_end (h _ _ ⟨rfl, rfl⟩)), ?_⟩
  refine ob_q rfl rfl ⟨_, fun X Q h => o_assign (g_end (h _ _ ⟨rfl, rfl⟩)), ?_⟩
  refine ob_nil ?_
  repeat (first | refine g_endt ?_ | refine g_end ?_ | refine g_then ?_ | refine g_in_normal ?_ | refine g_then_ret ?_ | refine g_in_ret ?_ | refine g_then_exit ?_ | refine g_in_exit rfl ?_ | refine g_in_exit_ne (by decide) ?_ | refine g_seq ?_ | refine g_region ?_ | refine g_block ?_ | refine g_ret ?_ | refine g_return_n ?_ | refine g_exit ?_ | refine g_skip ?_)
  refine g_loop (σ := {s : Nat × Nat // s.1 ≤ s.2 ∧ s.2 ≤ ys.length ∧ (∀ (j : Nat) (y : PgSY), j < s.1 → ys[j]? = some y → PgSY.cmp y x < 0) ∧ ∀ (j : Nat) (y : PgSY), s.2 ≤ j → ys[j]? = some y → 0 < PgSY.cmp y x})
    (S := fun s => [(0, .pointer (some ⟨p, 0, none⟩)), (3, .pointer (some ⟨q, 0, none⟩)), (6, .int .i64 (s.1.1 : Int)), (7, .int .i64 (s.1.2 : Int))])
    (H := fun _ => [cellsB p #[.slice S ys.length c, .bool b] 143, row 126 PgSY.enc 4 b S c ys, cellsB q x.val.cells 126]) (μ := fun s => s.1.2 - s.1.1)
    (s0 := ⟨(0, ys.length), Nat.zero_le _, Nat.le_refl _, fun j y h => absurd h (Nat.not_lt_zero j), fun j y h e => by rw [List.getElem?_eq_none h] at e; cases e⟩) (Sat.mem ⟨rfl, rfl, rfl, rfl, trivial⟩) ?_
  rintro ⟨⟨lo, hi⟩, h1, h2, h3, h4⟩ ρ'
  dsimp only at h1 h2 h3 h4 ⊢
  repeat (first | refine g_endt ?_ | refine g_end ?_ | refine g_then ?_ | refine g_in_normal ?_ | refine g_then_ret ?_ | refine g_in_ret ?_ | refine g_then_exit ?_ | refine g_in_exit rfl ?_ | refine g_in_exit_ne (by decide) ?_ | refine g_seq ?_ | refine g_region ?_ | refine g_block ?_ | refine g_ret ?_ | refine g_return_n ?_ | refine g_exit ?_ | refine g_skip ?_)
  refine o_move ?_
  refine o_move ?_
  refine o_lss rfl rfl ?_
  first | refine g_endt ?_ | refine g_end ?_
  by_cases h : lo < hi
  · first | refine g_seq (g_cond_t rfl (by simpa using h) ?_) | refine g_cond_t rfl (by simpa using h) ?_
    repeat (first | refine g_endt ?_ | refine g_end ?_ | refine g_then ?_ | refine g_in_normal ?_ | refine g_then_ret ?_ | refine g_in_ret ?_ | refine g_then_exit ?_ | refine g_in_exit rfl ?_ | refine g_in_exit_ne (by decide) ?_ | refine g_seq ?_ | refine g_region ?_ | refine g_block ?_ | refine g_ret ?_ | refine g_return_n ?_ | refine g_exit ?_ | refine g_skip ?_)
    refine o_move ?_
    refine o_move ?_
    refine o_move ?_
    refine o_sub (c := ((hi - lo : Nat) : Int)) rfl rfl (by omega) (by omega) (by omega) ?_
    refine o_quo (c := (((hi - lo) / 2 : Nat) : Int)) rfl rfl (by decide) (by rw [Int.tdiv_eq_ediv_of_nonneg (by omega)]; omega) (by omega) (by omega) ?_
    refine o_add (c := ((lo + (hi - lo) / 2 : Nat) : Int)) rfl rfl (by omega) (by omega) (by omega) ?_
    generalize hmid : lo + (hi - lo) / 2 = mid
    have hm1 : lo ≤ mid := by omega
    have hm2 : mid < hi := by omega
    have hm3 : mid < ys.length := by omega
    obtain ⟨y, hy⟩ : ∃ y, ys[mid]? = some y := ⟨_, List.getElem?_eq_getElem hm3⟩
    refine o_assign ?_
    refine g_endt ?_
    repeat (first | refine g_endt ?_ | refine g_end ?_ | refine g_then ?_ | refine g_in_normal ?_ | refine g_then_ret ?_ | refine g_in_ret ?_ | refine g_then_exit ?_ | refine g_in_exit rfl ?_ | refine g_in_exit_ne (by decide) ?_ | refine g_seq ?_ | refine g_region ?_ | refine g_block ?_ | refine g_ret ?_ | refine g_return_n ?_ | refine g_exit ?_ | refine g_skip ?_)
    refine g_draw [] [0,1,2,3,4,5,6,7,8,9,10] [cellsB p #[.slice S ys.length c, .bool b] 143, row 126 PgSY.enc 4 b S c ys, cellsB q x.val.cells 126] mixed rfl ?_
    refine ob_q rfl rfl ⟨_, fun X Q h => o_move (g_end (h _ _ ⟨rfl, rfl⟩)), ?_⟩
    refine ob_q rfl rfl ⟨_, fun X Q h => o_nil rfl (g_end (h _ _ ⟨rfl, rfl⟩)), ?_⟩
    refine ob_q rfl rfl ⟨_, fun X Q h => o_field rfl (g_end (h _ _ ⟨rfl, rfl⟩)), ?_⟩
    refine ob_q rfl rfl ⟨_, fun X Q h => o_load1 (v := .slice S ys.length c) rfl rfl (g_end (h _ _ ⟨rfl, rfl⟩)), ?_⟩
    refine ob_q rfl rfl ⟨_, fun X Q h => o_move (g_end (h _ _ ⟨rfl, rfl⟩)), ?_⟩
    refine ob_q rfl rfl ⟨_, fun X Q h => o_indexR (ys := ys) (i := mid) rfl rfl rfl hm3 rfl rfl (g_end (h _ _ ⟨rfl, rfl⟩)), ?_⟩
    refine ob_q rfl rfl ⟨_, fun X Q h => o_loadE (ys := ys) rfl rfl hy (g_end (h _ _ ⟨rfl, rfl⟩)), ?_⟩
    refine ob_q rfl rfl ⟨_, fun X Q h => o_iface (u := y.val) rfl (fun w => by kernel_rfl) (g_end (h _ _ ⟨rfl, rfl⟩)), ?_⟩
    refine ob_q rfl rfl ⟨_, fun X Q h => o_loadN (v := x.val) rfl rfl rfl (g_end (h _ _ ⟨rfl, rfl⟩)), ?_⟩
    refine ob_q rfl rfl ⟨_, fun X Q h => o_invoke (PgSY.cmp_spec y x) rfl rfl (fun w => by kernel_rfl) <| by rintro _ _ ⟨rfl, rfl⟩; exact (g_end (h _ _ ⟨rfl, rfl⟩)), ?_⟩
    refine ob_q rfl rfl ⟨_, fun X Q h => o_assign (g_end (h _ _ ⟨rfl, rfl⟩)), ?_⟩
    refine ob_nil ?_
    repeat (first | refine g_endt ?_ | refine g_end ?_ | refine g_then ?_ | refine g_in_normal ?_ | refine g_then_ret ?_ | refine g_in_ret ?_ | refine g_then_exit ?_ | refine g_in_exit rfl ?_ | refine g_in_exit_ne (by decide) ?_ | refine g_seq ?_ | refine g_region ?_ | refine g_block ?_ | refine g_ret ?_ | refine g_return_n ?_ | refine g_exit ?_ | refine g_skip ?_)
    refine o_move ?_
    refine o_eql rfl rfl ?_
    first | refine g_endt ?_ | refine g_end ?_
    by_cases hc : PgSY.cmp y x = 0
    · first | refine g_seq (g_cond_t rfl (by simpa using hc) ?_) | refine g_cond_t rfl (by simpa using hc) ?_
      repeat (first | refine g_endt ?_ | refine g_end ?_ | refine g_then ?_ | refine g_in_normal ?_ | refine g_then_ret ?_ | refine g_in_ret ?_ | refine g_then_exit ?_ | refine g_in_exit rfl ?_ | refine g_in_exit_ne (by decide) ?_ | refine g_seq ?_ | refine g_region ?_ | refine g_block ?_ | refine g_ret ?_ | refine g_return_n ?_ | refine g_exit ?_ | refine g_skip ?_)
      refine o_move ?_
      refine o_assign ?_
      refine o_assign ?_
      first | refine g_endt ?_ | refine g_end ?_
      refine shutSY p ys S c b rfl ?_
      repeat (first | refine g_endt ?_ | refine g_end ?_ | refine g_then ?_ | refine g_in_normal ?_ | refine g_then_ret ?_ | refine g_in_ret ?_ | refine g_then_exit ?_ | refine g_in_exit rfl ?_ | refine g_in_exit_ne (by decide) ?_ | refine g_seq ?_ | refine g_region ?_ | refine g_block ?_ | refine g_ret ?_ | refine g_return_n ?_ | refine g_exit ?_ | refine g_skip ?_)
      exact ret2 rfl (resT rfl) (resT rfl) ⟨mid, true, rfl, rfl, by omega, fun _ => ⟨y, hy, hc⟩, fun e => by cases e⟩
    · first | refine g_seq (g_cond_f rfl (by simpa using hc) ?_) | refine g_cond_f rfl (by simpa using hc) ?_
      repeat (first | refine g_endt ?_ | refine g_end ?_ | refine g_then ?_ | refine g_in_normal ?_ | refine g_then_ret ?_ | refine g_in_ret ?_ | refine g_then_exit ?_ | refine g_in_exit rfl ?_ | refine g_in_exit_ne (by decide) ?_ | refine g_seq ?_ | refine g_region ?_ | refine g_block ?_ | refine g_ret ?_ | refine g_return_n ?_ | refine g_exit ?_ | refine g_skip ?_)
      refine o_move ?_
      refine o_lss rfl rfl ?_
      first | refine g_endt ?_ | refine g_end ?_
      by_cases hn : PgSY.cmp y x < 0
      · first | refine g_seq (g_cond_t rfl (by simpa using hn) ?_) | refine g_cond_t rfl (by simpa using hn) ?_
        repeat (first | refine g_endt ?_ | refine g_end ?_ | refine g_then ?_ | refine g_in_normal ?_ | refine g_then_ret ?_ | refine g_in_ret ?_ | refine g_then_exit ?_ | refine g_in_exit rfl ?_ | refine g_in_exit_ne (by decide) ?_ | refine g_seq ?_ | refine g_region ?_ | refine g_block ?_ | refine g_ret ?_ | refine g_return_n ?_ | refine g_exit ?_ | refine g_skip ?_)
        refine o_move ?_
        refine o_add (c := ((mid + 1 : Nat) : Int)) rfl rfl (by omega) (by omega) (by omega) ?_
        refine o_assign ?_
        first | refine g_endt ?_ | refine g_end ?_
        repeat (first | refine g_endt ?_ | refine g_end ?_ | refine g_then ?_ | refine g_in_normal ?_ | refine g_then_ret ?_ | refine g_in_ret ?_ | refine g_then_exit ?_ | refine g_in_exit rfl ?_ | refine g_in_exit_ne (by decide) ?_ | refine g_seq ?_ | refine g_region ?_ | refine g_block ?_ | refine g_ret ?_ | refine g_return_n ?_ | refine g_exit ?_ | refine g_skip ?_)
        refine g_meets ⟨(mid + 1, hi), by show mid + 1 ≤ hi; omega, h2, fun j y' hj hy' => ?_, h4⟩ (by show hi - (mid + 1) < hi - lo; omega) (Sat.mem ⟨rfl, rfl, rfl, rfl, trivial⟩)
        by_cases e : j = mid
        · subst e; rw [hy] at hy'; cases hy'; exact hn
        · exact PgSY.lin.trans _ _ _ (hs j mid y' y (by dsimp only at hj; omega) hy' hy) hn
      · first | refine g_seq (g_cond_f rfl (by simpa using hn) ?_) | refine g_cond_f rfl (by simpa using hn) ?_
        repeat (first | refine g_endt ?_ | refine g_end ?_ | refine g_then ?_ | refine g_in_normal ?_ | refine g_then_ret ?_ | refine g_in_ret ?_ | refine g_then_exit ?_ | refine g_in_exit rfl ?_ | refine g_in_exit_ne (by decide) ?_ | refine g_seq ?_ | refine g_region ?_ | refine g_block ?_ | refine g_ret ?_ | refine g_return_n ?_ | refine g_exit ?_ | refine g_skip ?_)
        refine o_move ?_
        refine o_assign ?_
        first | refine g_endt ?_ | refine g_end ?_
        repeat (first | refine g_endt ?_ | refine g_end ?_ | refine g_then ?_ | refine g_in_normal ?_ | refine g_then_ret ?_ | refine g_in_ret ?_ | refine g_then_exit ?_ | refine g_in_exit rfl ?_ | refine g_in_exit_ne (by decide) ?_ | refine g_seq ?_ | refine g_region ?_ | refine g_block ?_ | refine g_ret ?_ | refine g_return_n ?_ | refine g_exit ?_ | refine g_skip ?_)
        refine g_meets ⟨(lo, mid), hm1, by show mid ≤ ys.length; omega, h3, fun j y' hj hy' => ?_⟩ (by show mid - lo < hi - lo; omega) (Sat.mem ⟨rfl, rfl, rfl, rfl, trivial⟩)
        by_cases e : j = mid
        · subst e; rw [hy] at hy'; cases hy'; omega
        · have h5 := hs mid j y y' (by dsimp only at hj; omega) hy hy'
          have h6 := PgSY.lin.swap x y
          have h7 := PgSY.lin.trans x y y' (by omega) h5
          have h8 := PgSY.lin.swap x y'
          omega
  · first | refine g_seq (g_cond_f rfl (by simpa using h) ?_) | refine g_cond_f rfl (by simpa using h) ?_
    have e : lo = hi := by omega
    subst e
    repeat (first | refine g_endt ?_ | refine g_end ?_ | refine g_then ?_ | refine g_in_normal ?_ | refine g_then_ret ?_ | refine g_in_ret ?_ | refine g_then_exit ?_ | refine g_in_exit rfl ?_ | refine g_in_exit_ne (by decide) ?_ | refine g_seq ?_ | refine g_region ?_ | refine g_block ?_ | refine g_ret ?_ | refine g_return_n ?_ | refine g_exit ?_ | refine g_skip ?_)
    refine o_move ?_
    refine o_assign ?_
    refine o_assign ?_
    first | refine g_endt ?_ | refine g_end ?_
    refine shutSY p ys S c b rfl ?_
    repeat (first | refine g_endt ?_ | refine g_end ?_ | refine g_then ?_ | refine g_in_normal ?_ | refine g_then_ret ?_ | refine g_in_ret ?_ | refine g_then_exit ?_ | refine g_in_exit rfl ?_ | refine g_in_exit_ne (by decide) ?_ | refine g_seq ?_ | refine g_region ?_ | refine g_block ?_ | refine g_ret ?_ | refine g_return_n ?_ | refine g_exit ?_ | refine g_skip ?_)
    exact ret2 rfl (resT rfl) (resT rfl) ⟨lo, false, rfl, rfl, h2, fun e => (by cases e), fun _ => ⟨h3, h4⟩⟩
end Go.Proofs.Ytonjhakjnopbjaa
/- An ordered set's functions, for one type of members: own, Put. -/
namespace Go.Proofs.Ytonjhakjnopbjaa
open Go Go.Sl
attribute [local irreducible] Code.wpIn roundPost bodyPostM runL Ret Meets Begin

theorem ownSY_spec (p : Nat) (ys : List PgSY) (hl : ys.length ≤ 1000000000) : Ctr Try.prog 101 [.pointer (some ⟨p, 0, none⟩)] [SetASY p ys]
    (fun _ M => ∃ (S : Option Addr) (c : Nat), M = [cellsB p #[.slice S ys.length c, .bool false] 143, osl 126 PgSY.enc 4 S c ys]) := by
  refine spec_of Try.func101 rfl Try.ntmps101 rfl fun w0 F => ?_
  repeat (first | refine g_endt ?_ | refine g_end ?_ | refine g_then ?_ | refine g_in_normal ?_ | refine g_then_ret ?_ | refine g_in_ret ?_ | refine g_then_exit ?_ | refine g_in_exit rfl ?_ | refine g_in_exit_ne (by decide) ?_ | refine g_seq ?_ | refine g_region ?_ | refine g_block ?_ | refine g_ret ?_ | refine g_return_n ?_ | refine g_exit ?_ | refine g_skip ?_)
  refine openSY p ys fun S c b => ?_
  refine o_move ?_
  refine o_nil rfl ?_
  refine o_field rfl ?_
  refine o_load1 (v := .bool b) rfl rfl ?_
  refine g_endt ?_
  cases b
  · first | refine g_seq (g_cond_f rfl (rfl) ?_) | refine g_cond_f rfl (rfl) ?_
    change G _ _ [cellsB p #[.slice S ys.length c, .bool false] 143, osl 126 PgSY.enc 4 S c ys] _
    repeat (first | refine g_endt ?_ | refine g_end ?_ | refine g_then ?_ | refine g_in_normal ?_ | refine g_then_ret ?_ | refine g_in_ret ?_ | refine g_then_exit ?_ | refine g_in_exit rfl ?_ | refine g_in_exit_ne (by decide) ?_ | refine g_seq ?_ | refine g_region ?_ | refine g_block ?_ | refine g_ret ?_ | refine g_return_n ?_ | refine g_exit ?_ | refine g_skip ?_)
    exact ret0 rfl ⟨S, c, rfl⟩
  · first | refine g_seq (g_cond_t rfl (rfl) ?_) | refine g_cond_t rfl (rfl) ?_
    change G _ _ [cellsB p #[.slice S ys.length c, .bool true] 143, psl PgSY.enc 4 S ys] _
    repeat (first | refine g_endt ?_ | refine g_end ?_ | refine g_then ?_ | refine g_in_normal ?_ | refine g_then_ret ?_ | refine g_in_ret ?_ | refine g_then_exit ?_ | refine g_in_exit rfl ?_ | refine g_in_exit_ne (by decide) ?_ | refine g_seq ?_ | refine g_region ?_ | refine g_block ?_ | refine g_ret ?_ | refine g_return_n ?_ | refine g_exit ?_ | refine g_skip ?_)
    refine g_draw [7, 12, 15] [0,1,2,3,4,5,6,8,9,10,11,7,12,13,14,15] [cellsB p #[.slice S ys.length c, .bool true] 143, psl PgSY.enc 4 S ys] mixed rfl ?_
    refine ob_q rfl rfl ⟨_, fun X Q h => o_move (g_end (h _ _ ⟨rfl, rfl⟩)), ?_⟩
    refine ob_q rfl rfl ⟨_, fun X Q h => o_move (g_end (h _ _ ⟨rfl, rfl⟩)), ?_⟩
    refine ob_q rfl rfl ⟨_, fun X Q h => o_nil rfl (g_end (h _ _ ⟨rfl, rfl⟩)), ?_⟩
    refine ob_q rfl rfl ⟨_, fun X Q h => o_field rfl (g_end (h _ _ ⟨rfl, rfl⟩)), ?_⟩
    refine ob_q rfl rfl ⟨_, fun X Q h => o_load1 (v := .slice S ys.length c) rfl rfl (g_end (h _ _ ⟨rfl, rfl⟩)), ?_⟩
    refine ob_q rfl rfl ⟨_, fun X Q h => o_len rfl rfl (g_end (h _ _ ⟨rfl, rfl⟩)), ?_⟩
    refine ob_q rfl rfl ⟨_, fun X Q h => o_add (c := ((ys.length + 1 : Nat) : Int)) rfl rfl (by omega) (by omega) (by omega) (g_end (h _ _ ⟨rfl, rfl⟩)), ?_⟩
    refine ob_q rfl rfl ⟨_, fun X Q h => o_move (g_end (h _ _ ⟨rfl, rfl⟩)), ?_⟩
    refine ob_q rfl rfl ⟨_, fun X Q h => o_nil rfl (g_end (h _ _ ⟨rfl, rfl⟩)), ?_⟩
    refine ob_q rfl rfl ⟨_, fun X Q h => o_field rfl (g_end (h _ _ ⟨rfl, rfl⟩)), ?_⟩
    refine ob_q rfl rfl ⟨_, fun X Q h => o_load1 (v := .slice S ys.length c) rfl rfl (g_end (h _ _ ⟨rfl, rfl⟩)), ?_⟩
    refine ob_l rfl rfl fun Qz hz => o_make0 (α := PgSY) (enc := PgSY.enc) rfl rfl rfl (by omega) (by simp [maxLen]; omega) fun T => g_end (hz _ _ ⟨_, ob_fin, ?_⟩)
    clear hz Qz
    refine ob_l rfl rfl fun Qz hz => o_append0 (ys := ys) rfl rfl rfl rfl rfl (by simp [maxLen]; omega) (by omega) fun U d => g_end (hz _ _ ⟨_, ob_fin, ?_⟩)
    clear hz Qz
    refine ob_q rfl rfl ⟨_, fun X Q h => o_nil rfl (g_end (h _ _ ⟨rfl, rfl⟩)), ?_⟩
    refine ob_q rfl rfl ⟨_, fun X Q h => o_field rfl (g_end (h _ _ ⟨rfl, rfl⟩)), ?_⟩
    refine ob_s ([]) rfl rfl rfl fun Qz hz => o_store (v := .slice U ys.length d) rfl rfl rfl rfl rfl <| g_end (hz _ _ ⟨_, ob_fin, ?_⟩)
    clear hz Qz
    refine ob_nil ?_
    repeat (first | refine g_endt ?_ | refine g_end ?_ | refine g_then ?_ | refine g_in_normal ?_ | refine g_then_ret ?_ | refine g_in_ret ?_ | refine g_then_exit ?_ | refine g_in_exit rfl ?_ | refine g_in_exit_ne (by decide) ?_ | refine g_seq ?_ | refine g_region ?_ | refine g_block ?_ | refine g_ret ?_ | refine g_return_n ?_ | refine g_exit ?_ | refine g_skip ?_)
    refine o_move ?_
    refine o_nil rfl ?_
    refine o_field rfl ?_
    refine o_store rfl rfl rfl rfl rfl ?_
    first | refine g_endt ?_ | refine g_end ?_
    repeat (first | refine g_endt ?_ | refine g_end ?_ | refine g_then ?_ | refine g_in_normal ?_ | refine g_then_ret ?_ | refine g_in_ret ?_ | refine g_then_exit ?_ | refine g_in_exit rfl ?_ | refine g_in_exit_ne (by decide) ?_ | refine g_seq ?_ | refine g_region ?_ | refine g_block ?_ | refine g_ret ?_ | refine g_return_n ?_ | refine g_exit ?_ | refine g_skip ?_)
    refine G.norm p #[.slice U ys.length d, .bool false] rfl ?_
    exact ret0 rfl ⟨U, d, rfl⟩
end Go.Proofs.Ytonjhakjnopbjaa
/- An ordered set's functions, for one type of members: Put. -/
namespace Go.Proofs.Ytonjhakjnopbjaa
open Go Go.Sl
attribute [local irreducible] Code.wpIn roundPost bodyPostM runL Ret Meets Begin

theorem take_snocPSY {α : Type} (ys : List α) (i : Nat) (y : α) (h : ys[i]? = some y) : ys.take (i + 1) = ys.take i ++ [y] := by rw [List.take_add_one, h]; rfl
theorem gapSY (ys : List PgSY) (i : Nat) (w y : PgSY) (hi : i < ys.length) (hy : ys[i]? = some y) : (ys.take (i + 1) ++ w :: ys.drop (i + 1)).set (i + 1) y = ys.take i ++ y :: ys.drop i := by
  have h1 : (ys.take (i + 1)).length = i + 1 := by simp; omega
  have h2 : ys.drop i = y :: ys.drop (i + 1) := by
    rw [List.drop_eq_getElem_cons hi]
    rw [List.getElem?_eq_getElem hi] at hy
    cases hy
    rfl
  rw [List.set_append_right _ _ (by omega), h1, Nat.sub_self, List.set_cons_zero, take_snocPSY ys i y hy, h2]
  simp
theorem PutSY_spec (p : Nat) (ys : List PgSY) (x : PgSY) (hs : Srt PgSY.cmp ys) (hl : ys.length < 1000000000) : Ctr Try.prog 98 [.pointer (some ⟨p, 0, none⟩), x.val] [SetASY p ys]
    (fun v M => ∃ (k : Nat) (there : Bool), v = .bool !there ∧ M = [SetASY p (cond there ys (ys.take k ++ x :: ys.drop k))] ∧ FindR PgSY.cmp ys x k there) := by
  refine spec_of Try.func98 rfl Try.ntmps98 rfl fun w0 F => ?_
  repeat (first | refine g_endt ?_ | refine g_end ?_ | refine g_then ?_ | refine g_in_normal ?_ | refine g_then_ret ?_ | refine g_in_ret ?_ | refine g_then_exit ?_ | refine g_in_exit rfl ?_ | refine g_in_exit_ne (by decide) ?_ | refine g_seq ?_ | refine g_region ?_ | refine g_block ?_ | refine g_ret ?_ | refine g_return_n ?_ | refine g_exit ?_ | refine g_skip ?_)
  refine o_boxc x.val.cells rfl rfl fun q => ?_
  refine o_assign ?_
  first | refine g_endt ?_ | refine g_end ?_
  repeat (first | refine g_endt ?_ | refine g_end ?_ | refine g_then ?_ | refine g_in_normal ?_ | refine g_then_ret ?_ | refine g_in_ret ?_ | refine g_then_exit ?_ | refine g_in_exit rfl ?_ | refine g_in_exit_ne (by decide) ?_ | refine g_seq ?_ | refine g_region ?_ | refine g_block ?_ | refine g_ret ?_ | refine g_return_n ?_ | refine g_exit ?_ | refine g_skip ?_)
  refine o_move ?_
  refine o_peql rfl ?_
  first | refine g_endt ?_ | refine g_end ?_
  first | refine g_seq (g_cond_f rfl (rfl) ?_) | refine g_cond_f rfl (rfl) ?_
  repeat (first | refine g_endt ?_ | refine g_end ?_ | refine g_then ?_ | refine g_in_normal ?_ | refine g_then_ret ?_ | refine g_in_ret ?_ | refine g_then_exit ?_ | refine g_in_exit rfl ?_ | refine g_in_exit_ne (by decide) ?_ | refine g_seq ?_ | refine g_region ?_ | refine g_block ?_ | refine g_ret ?_ | refine g_return_n ?_ | refine g_exit ?_ | refine g_skip ?_)
  refine o_move ?_
  refine o_loadN (v := x.val) rfl rfl rfl ?_
  refine o_call (findSY_spec p ys x hs (by omega)) rfl rfl ?_
  rintro _ _ ⟨k, there, rfl, rfl, hk⟩
  refine o_move ?_
  refine o_extract rfl rfl ?_
  refine o_extract rfl rfl ?_
  refine o_assign ?_
  refine o_assign ?_
  first | refine g_endt ?_ | refine g_end ?_
  repeat (first | refine g_endt ?_ | refine g_end ?_ | refine g_then ?_ | refine g_in_normal ?_ | refine g_then_ret ?_ | refine g_in_ret ?_ | refine g_then_exit ?_ | refine g_in_exit rfl ?_ | refine g_in_exit_ne (by decide) ?_ | refine g_seq ?_ | refine g_region ?_ | refine g_block ?_ | refine g_ret ?_ | refine g_return_n ?_ | refine g_exit ?_ | refine g_skip ?_)
  refine o_move ?_
  refine g_endt ?_
  cases there
  case true =>
    first | refine g_seq (g_cond_t rfl (rfl) ?_) | refine g_cond_t rfl (rfl) ?_
    repeat (first | refine g_endt ?_ | refine g_end ?_ | refine g_then ?_ | refine g_in_normal ?_ | refine g_then_ret ?_ | refine g_in_ret ?_ | refine g_then_exit ?_ | refine g_in_exit rfl ?_ | refine g_in_exit_ne (by decide) ?_ | refine g_seq ?_ | refine g_region ?_ | refine g_block ?_ | refine g_ret ?_ | refine g_return_n ?_ | refine g_exit ?_ | refine g_skip ?_)
    refine o_assign ?_
    first | refine g_endt ?_ | refine g_end ?_
    repeat (first | refine g_endt ?_ | refine g_end ?_ | refine g_then ?_ | refine g_in_normal ?_ | refine g_then_ret ?_ | refine g_in_ret ?_ | refine g_then_exit ?_ | refine g_in_exit rfl ?_ | refine g_in_exit_ne (by decide) ?_ | refine g_seq ?_ | refine g_region ?_ | refine g_block ?_ | refine g_ret ?_ | refine g_return_n ?_ | refine g_exit ?_ | refine g_skip ?_)
    exact ret1 (K := [SetASY p ys]) rfl (resT rfl) ⟨k, true, rfl, rfl, hk⟩
  first | refine g_seq (g_cond_f rfl (rfl) ?_) | refine g_cond_f rfl (rfl) ?_
  repeat (first | refine g_endt ?_ | refine g_end ?_ | refine g_then ?_ | refine g_in_normal ?_ | refine g_then_ret ?_ | refine g_in_ret ?_ | refine g_then_exit ?_ | refine g_in_exit rfl ?_ | refine g_in_exit_ne (by decide) ?_ | refine g_seq ?_ | refine g_region ?_ | refine g_block ?_ | refine g_ret ?_ | refine g_return_n ?_ | refine g_exit ?_ | refine g_skip ?_)
  refine o_move ?_
  refine o_call (ownSY_spec p ys (by omega)) rfl rfl ?_
  rintro _ _ ⟨S, c, rfl⟩
  refine g_endt ?_
  repeat (first | refine g_endt ?_ | refine g_end ?_ | refine g_then ?_ | refine g_in_normal ?_ | refine g_then_ret ?_ | refine g_in_ret ?_ | refine g_then_exit ?_ | refine g_in_exit rfl ?_ | refine g_in_exit_ne (by decide) ?_ | refine g_seq ?_ | refine g_region ?_ | refine g_block ?_ | refine g_ret ?_ | refine g_return_n ?_ | refine g_exit ?_ | refine g_skip ?_)
  refine g_draw [6, 7, 10] [0,1,2,3,4,5,6,7,8,9,10] [cellsB p #[.slice S ys.length c, .bool false] 143, cellsB q x.val.cells 126] mixed rfl ?_
  refine ob_q rfl rfl ⟨_, fun X Q h => o_move (g_end (h _ _ ⟨rfl, rfl⟩)), ?_⟩
  refine ob_q rfl rfl ⟨_, fun X Q h => o_move (g_end (h _ _ ⟨rfl, rfl⟩)), ?_⟩
  refine ob_q rfl rfl ⟨_, fun X Q h => o_nil rfl (g_end (h _ _ ⟨rfl, rfl⟩)), ?_⟩
  refine ob_q rfl rfl ⟨_, fun X Q h => o_field rfl (g_end (h _ _ ⟨rfl, rfl⟩)), ?_⟩
  refine ob_q rfl rfl ⟨_, fun X Q h => o_load1 (v := .slice S ys.length c) rfl rfl (g_end (h _ _ ⟨rfl, rfl⟩)), ?_⟩
  refine ob_q rfl rfl ⟨_, fun X Q h => o_loadN (v := x.val) rfl rfl rfl (g_end (h _ _ ⟨rfl, rfl⟩)), ?_⟩
  refine ob_l rfl rfl fun Qz hz => o_slice_lit (e := 126) x.val.cells (fun w => by kernel_rfl) fun g => G.lit_slice (enc := PgSY.enc) (sz := 4) [x] (by simp [PgSY.enc]) (by simp [maxLen]) <| G.freeze_slice <| g_end (hz _ _ ⟨_, ob_fin, ?_⟩)
  clear hz Qz
  refine ob_l rfl rfl fun Qz hz => o_append (xs := ys) (ys := [x]) rfl rfl rfl rfl rfl (fun _ => .inr trivial) (by simp [maxLen]; omega) (by simp; omega) fun U d => g_end (hz _ _ ⟨_, ob_fin, ?_⟩)
  clear hz Qz
  refine ob_q rfl rfl ⟨_, fun X Q h => o_nil rfl (g_end (h _ _ ⟨rfl, rfl⟩)), ?_⟩
  refine ob_q rfl rfl ⟨_, fun X Q h => o_field rfl (g_end (h _ _ ⟨rfl, rfl⟩)), ?_⟩
  refine ob_s ([]) rfl rfl rfl fun Qz hz => o_store (v := .slice U (ys.length + 1) d) rfl rfl rfl rfl rfl <| g_end (hz _ _ ⟨_, ob_fin, ?_⟩)
  clear hz Qz
  refine ob_nil ?_
  refine G.norm p #[.slice U (ys.length + 1) d, .bool false] rfl ?_
  repeat (first | refine g_endt ?_ | refine g_end ?_ | refine g_then ?_ | refine g_in_normal ?_ | refine g_then_ret ?_ | refine g_in_ret ?_ | refine g_then_exit ?_ | refine g_in_exit rfl ?_ | refine g_in_exit_ne (by decide) ?_ | refine g_seq ?_ | refine g_region ?_ | refine g_block ?_ | refine g_ret ?_ | refine g_return_n ?_ | refine g_exit ?_ | refine g_skip ?_)
  refine o_move ?_
  refine o_nil rfl ?_
  refine o_field rfl ?_
  refine o_load1 (v := .slice U (ys.length + 1) d) rfl rfl ?_
  refine o_len rfl rfl ?_
  refine o_sub (c := ((ys.length : Nat) : Int)) rfl rfl (by omega) (by omega) (by omega) ?_
  refine o_assign ?_
  refine g_endt ?_
  repeat (first | refine g_endt ?_ | refine g_end ?_ | refine g_then ?_ | refine g_in_normal ?_ | refine g_then_ret ?_ | refine g_in_ret ?_ | refine g_then_exit ?_ | refine g_in_exit rfl ?_ | refine g_in_exit_ne (by decide) ?_ | refine g_seq ?_ | refine g_region ?_ | refine g_block ?_ | refine g_ret ?_ | refine g_return_n ?_ | refine g_exit ?_ | refine g_skip ?_)
  have hk1 : k ≤ ys.length := hk.1
  refine g_loop (σ := {s : Nat × PgSY // k ≤ s.1 ∧ s.1 ≤ ys.length})
    (S := fun s => [(0, .pointer (some ⟨p, 0, none⟩)), (3, .pointer (some ⟨q, 0, none⟩)), (5, .int .i64 (k : Int)), (7, .int .i64 (s.1.1 : Int))])
    (H := fun s => [cellsB p #[.slice U (ys.length + 1) d, .bool false] 143, cellsB q x.val.cells 126, osl 126 PgSY.enc 4 U d (ys.take s.1.1 ++ s.1.2 :: ys.drop s.1.1)]) (μ := fun s => s.1.1)
    (s0 := ⟨(ys.length, x), hk1, Nat.le_refl _⟩) (Sat.mem ⟨rfl, rfl, rfl, rfl, trivial⟩) (t := by simp only [List.take_length, List.drop_length]; infer_instance) ?_
  rintro ⟨⟨i, w⟩, h1, h2⟩ ρ'
  dsimp only at h1 h2 ⊢
  have hlen : (ys.take i ++ w :: ys.drop i).length = ys.length + 1 := by simp; omega
  repeat (first | refine g_endt ?_ | refine g_end ?_ | refine g_then ?_ | refine g_in_normal ?_ | refine g_then_ret ?_ | refine g_in_ret ?_ | refine g_then_exit ?_ | refine g_in_exit rfl ?_ | refine g_in_exit_ne (by decide) ?_ | refine g_seq ?_ | refine g_region ?_ | refine g_block ?_ | refine g_ret ?_ | refine g_return_n ?_ | refine g_exit ?_ | refine g_skip ?_)
  refine o_move ?_
  refine o_move ?_
  refine o_gtr rfl rfl ?_
  first | refine g_endt ?_ | refine g_end ?_
  by_cases h : k < i
  · first | refine g_seq (g_cond_t rfl (by simpa using h) ?_) | refine g_cond_t rfl (by simpa using h) ?_
    repeat (first | refine g_endt ?_ | refine g_end ?_ | refine g_then ?_ | refine g_in_normal ?_ | refine g_then_ret ?_ | refine g_in_ret ?_ | refine g_then_exit ?_ | refine g_in_exit rfl ?_ | refine g_in_exit_ne (by decide) ?_ | refine g_seq ?_ | refine g_region ?_ | refine g_block ?_ | refine g_ret ?_ | refine g_return_n ?_ | refine g_exit ?_ | refine g_skip ?_)
    obtain ⟨i, rfl⟩ : ∃ j, i = j + 1 := ⟨i - 1, by omega⟩
    have hi : i < ys.length := by omega
    obtain ⟨y, hy⟩ : ∃ y, ys[i]? = some y := ⟨_, List.getElem?_eq_getElem hi⟩
    have hz : (ys.take (i + 1) ++ w :: ys.drop (i + 1))[i]? = some y := by
      rw [List.getElem?_append_left (by simp; omega), List.getElem?_take, if_pos (by omega), hy]
    refine g_draw [14] [0,1,2,3,4,5,6,7,8,9,10,11,12,13,14] [cellsB p #[.slice U (ys.length + 1) d, .bool false] 143, osl 126 PgSY.enc 4 U d (ys.take (i + 1) ++ w :: ys.drop (i + 1))] mixed rfl ?_
    refine ob_q rfl rfl ⟨_, fun X Q h => o_move (g_end (h _ _ ⟨rfl, rfl⟩)), ?_⟩
    refine ob_q rfl rfl ⟨_, fun X Q h => o_nil rfl (g_end (h _ _ ⟨rfl, rfl⟩)), ?_⟩
    refine ob_q rfl rfl ⟨_, fun X Q h => o_field rfl (g_end (h _ _ ⟨rfl, rfl⟩)), ?_⟩
    refine ob_q rfl rfl ⟨_, fun X Q h => o_load1 (v := .slice U (ys.length + 1) d) rfl rfl (g_end (h _ _ ⟨rfl, rfl⟩)), ?_⟩
    refine ob_q rfl rfl ⟨_, fun X Q h => o_move (g_end (h _ _ ⟨rfl, rfl⟩)), ?_⟩
    refine ob_q rfl rfl ⟨_, fun X Q h => o_move (g_end (h _ _ ⟨rfl, rfl⟩)), ?_⟩
    refine ob_q rfl rfl ⟨_, fun X Q h => o_nil rfl (g_end (h _ _ ⟨rfl, rfl⟩)), ?_⟩
    refine ob_q rfl rfl ⟨_, fun X Q h => o_field rfl (g_end (h _ _ ⟨rfl, rfl⟩)), ?_⟩
    refine ob_q rfl rfl ⟨_, fun X Q h => o_load1 (v := .slice U (ys.length + 1) d) rfl rfl (g_end (h _ _ ⟨rfl, rfl⟩)), ?_⟩
    refine ob_q rfl rfl ⟨_, fun X Q h => o_move (g_end (h _ _ ⟨rfl, rfl⟩)), ?_⟩
    refine ob_q rfl rfl ⟨_, fun X Q h => o_sub (c := ((i : Nat) : Int)) rfl rfl (by omega) (by omega) (by omega) (g_end (h _ _ ⟨rfl, rfl⟩)), ?_⟩
    refine ob_q rfl rfl ⟨_, fun X Q h => o_indexR (i := i) rfl rfl rfl (by omega) hlen rfl (g_end (h _ _ ⟨rfl, rfl⟩)), ?_⟩
    refine ob_q rfl rfl ⟨_, fun X Q h => o_loadE (enc := PgSY.enc) rfl rfl hz (g_end (h _ _ ⟨rfl, rfl⟩)), ?_⟩
    refine ob_q rfl rfl ⟨_, fun X Q h => o_indexR (i := i + 1) rfl rfl rfl (by omega) hlen rfl (g_end (h _ _ ⟨rfl, rfl⟩)), ?_⟩
    refine ob_s ([]) rfl rfl rfl fun Qz hz => o_storeE (e := 126) (c := d) (v := y.val) (z := y) (i := i + 1) (enc := PgSY.enc) (xs := ys.take (i + 1) ++ w :: ys.drop (i + 1)) rfl rfl rfl rfl (by omega) <| g_end (hz _ _ ⟨_, ob_fin, ?_⟩)
    clear hz Qz
    refine ob_nil ?_
    rw [gapSY ys i w y hi hy]
    repeat (first | refine g_endt ?_ | refine g_end ?_ | refine g_then ?_ | refine g_in_normal ?_ | refine g_then_ret ?_ | refine g_in_ret ?_ | refine g_then_exit ?_ | refine g_in_exit rfl ?_ | refine g_in_exit_ne (by decide) ?_ | refine g_seq ?_ | refine g_region ?_ | refine g_block ?_ | refine g_ret ?_ | refine g_return_n ?_ | refine g_exit ?_ | refine g_skip ?_)
    refine o_move ?_
    refine o_sub (c := ((i : Nat) : Int)) rfl rfl (by omega) (by omega) (by omega) ?_
    refine o_assign ?_
    refine g_endt ?_
    repeat (first | refine g_endt ?_ | refine g_end ?_ | refine g_then ?_ | refine g_in_normal ?_ | refine g_then_ret ?_ | refine g_in_ret ?_ | refine g_then_exit ?_ | refine g_in_exit rfl ?_ | refine g_in_exit_ne (by decide) ?_ | refine g_seq ?_ | refine g_region ?_ | refine g_block ?_ | refine g_ret ?_ | refine g_return_n ?_ | refine g_exit ?_ | refine g_skip ?_)
    exact g_meets ⟨(i, y), by show k ≤ i; omega, by show i ≤ ys.length; omega⟩ (by show i < i + 1; omega) (Sat.mem ⟨rfl, rfl, rfl, rfl, trivial⟩)
  · first | refine g_seq (g_cond_f rfl (by simpa using h) ?_) | refine g_cond_f rfl (by simpa using h) ?_
    have e : i = k := by omega
    subst e
    repeat (first | refine g_endt ?_ | refine g_end ?_ | refine g_then ?_ | refine g_in_normal ?_ | refine g_then_ret ?_ | refine g_in_ret ?_ | refine g_then_exit ?_ | refine g_in_exit rfl ?_ | refine g_in_exit_ne (by decide) ?_ | refine g_seq ?_ | refine g_region ?_ | refine g_block ?_ | refine g_ret ?_ | refine g_return_n ?_ | refine g_exit ?_ | refine g_skip ?_)
    refine g_draw [7] [0,1,2,3,4,5,6,7] [cellsB p #[.slice U (ys.length + 1) d, .bool false] 143, osl 126 PgSY.enc 4 U d (ys.take i ++ w :: ys.drop i), cellsB q x.val.cells 126] mixed rfl ?_
    refine ob_q rfl rfl ⟨_, fun X Q h => o_move (g_end (h _ _ ⟨rfl, rfl⟩)), ?_⟩
    refine ob_q rfl rfl ⟨_, fun X Q h => o_nil rfl (g_end (h _ _ ⟨rfl, rfl⟩)), ?_⟩
    refine ob_q rfl rfl ⟨_, fun X Q h => o_field rfl (g_end (h _ _ ⟨rfl, rfl⟩)), ?_⟩
    refine ob_q rfl rfl ⟨_, fun X Q h => o_load1 (v := .slice U (ys.length + 1) d) rfl rfl (g_end (h _ _ ⟨rfl, rfl⟩)), ?_⟩
    refine ob_q rfl rfl ⟨_, fun X Q h => o_move (g_end (h _ _ ⟨rfl, rfl⟩)), ?_⟩
    refine ob_q rfl rfl ⟨_, fun X Q h => o_loadN (v := x.val) rfl rfl rfl (g_end (h _ _ ⟨rfl, rfl⟩)), ?_⟩
    refine ob_q rfl rfl ⟨_, fun X Q h => o_indexR (i := i) rfl rfl rfl (by omega) hlen rfl (g_end (h _ _ ⟨rfl, rfl⟩)), ?_⟩
    refine ob_s ([]) rfl rfl rfl fun Qz hz => o_storeE (e := 126) (c := d) (v := x.val) (z := x) (i := i) (enc := PgSY.enc) (xs := ys.take i ++ w :: ys.drop i) rfl rfl rfl rfl (by omega) <| g_end (hz _ _ ⟨_, ob_fin, ?_⟩)
    clear hz Qz
    refine ob_nil ?_
    have hset : (ys.take i ++ w :: ys.drop i).set i x = ys.take i ++ x :: ys.drop i := by
      have h3 : (ys.take i).length = i := by simp; omega
      rw [List.set_append_right _ _ (by omega), h3, Nat.sub_self, List.set_cons_zero]
    rw [hset]
    repeat (first | refine g_endt ?_ | refine g_end ?_ | refine g_then ?_ | refine g_in_normal ?_ | refine g_then_ret ?_ | refine g_in_ret ?_ | refine g_then_exit ?_ | refine g_in_exit rfl ?_ | refine g_in_exit_ne (by decide) ?_ | refine g_seq ?_ | refine g_region ?_ | refine g_block ?_ | refine g_ret ?_ | refine g_return_n ?_ | refine g_exit ?_ | refine g_skip ?_)
    refine o_assign ?_
    first | refine g_endt ?_ | refine g_end ?_
    refine shutFSY p (ys.take i ++ x :: ys.drop i) U d (len := ys.length + 1) (by simp; omega) ?_
    repeat (first | refine g_endt ?_ | refine g_end ?_ | refine g_then ?_ | refine g_in_normal ?_ | refine g_then_ret ?_ | refine g_in_ret ?_ | refine g_then_exit ?_ | refine g_in_exit rfl ?_ | refine g_in_exit_ne (by decide) ?_ | refine g_seq ?_ | refine g_region ?_ | refine g_block ?_ | refine g_ret ?_ | refine g_return_n ?_ | refine g_exit ?_ | refine g_skip ?_)
    exact ret1 (K := [SetASY p (ys.take i ++ x :: ys.drop i)]) rfl (resT rfl) ⟨i, false, rfl, rfl, hk⟩
end Go.Proofs.Ytonjhakjnopbjaa
/- An ordered set's functions, for one type of members: made. -/
namespace Go.Proofs.Ytonjhakjnopbjaa
open Go Go.Sl
attribute [local irreducible] Code.wpIn roundPost bodyPostM runL Ret Meets Begin

theorem NilSY_set (p : Nat) {w0 : World} {A : SProp} {L M : List SProp} {Φ : World → Prop} [tk : Take1 L (cellsB p #[.slice none 0 0, .bool false] 143) M] (h : G w0 A (SetASY p [] :: M) Φ) : G w0 A L Φ :=
  G.perm tk.perm (G.nil_slice (α := PgSY) 126 PgSY.enc 4 (shutFSY p [] none 0 rfl (M := M) (tk := ⟨List.Perm.swap _ _ _⟩) h))
theorem NewSY_spec : Ctr Try.prog 97 [.slice none 0 0] [] (fun v M => ∃ p, v = .pointer (some ⟨p, 0, none⟩) ∧ M = [SetASY p []]) := by
  refine spec_of Try.func97 rfl Try.ntmps97 rfl fun w0 F => ?_
  repeat (first | refine g_endt ?_ | refine g_end ?_ | refine g_then ?_ | refine g_in_normal ?_ | refine g_then_ret ?_ | refine g_in_ret ?_ | refine g_then_exit ?_ | refine g_in_exit rfl ?_ | refine g_in_exit_ne (by decide) ?_ | refine g_seq ?_ | refine g_region ?_ | refine g_block ?_ | refine g_ret ?_ | refine g_return_n ?_ | refine g_exit ?_ | refine g_skip ?_)
  refine o_assign ?_
  first | refine g_endt ?_ | refine g_end ?_
  repeat (first | refine g_endt ?_ | refine g_end ?_ | refine g_then ?_ | refine g_in_normal ?_ | refine g_then_ret ?_ | refine g_in_ret ?_ | refine g_then_exit ?_ | refine g_in_exit rfl ?_ | refine g_in_exit_ne (by decide) ?_ | refine g_seq ?_ | refine g_region ?_ | refine g_block ?_ | refine g_ret ?_ | refine g_return_n ?_ | refine g_exit ?_ | refine g_skip ?_)
  refine o_build (.agg #[.slice none 0 0, .bool false]) (fun w => by kernel_rfl) ?_
  refine o_boxc #[.slice none 0 0, .bool false] rfl rfl fun p => ?_
  refine NilSY_set p ?_
  refine o_assign ?_
  refine g_endt ?_
  repeat (first | refine g_endt ?_ | refine g_end ?_ | refine g_then ?_ | refine g_in_normal ?_ | refine g_then_ret ?_ | refine g_in_ret ?_ | refine g_then_exit ?_ | refine g_in_exit rfl ?_ | refine g_in_exit_ne (by decide) ?_ | refine g_seq ?_ | refine g_region ?_ | refine g_block ?_ | refine g_ret ?_ | refine g_return_n ?_ | refine g_exit ?_ | refine g_skip ?_)
  refine o_move ?_
  refine o_len rfl rfl ?_
  refine o_move ?_
  first | refine g_endt ?_ | refine g_end ?_
  repeat (first | refine g_endt ?_ | refine g_end ?_ | refine g_then ?_ | refine g_in_normal ?_ | refine g_then_ret ?_ | refine g_in_ret ?_ | refine g_then_exit ?_ | refine g_in_exit rfl ?_ | refine g_in_exit_ne (by decide) ?_ | refine g_seq ?_ | refine g_region ?_ | refine g_block ?_ | refine g_ret ?_ | refine g_return_n ?_ | refine g_exit ?_ | refine g_skip ?_)
  refine g_loop (σ := Unit) (S := fun _ => [(3, .pointer (some ⟨p, 0, none⟩)), (9, .int .i64 0), (10, .int .i64 0)]) (H := fun _ => [SetASY p []]) (μ := fun _ => 0) (s0 := ()) (Sat.mem ⟨rfl, rfl, rfl, trivial⟩) ?_
  rintro _ ρ'
  repeat (first | refine g_endt ?_ | refine g_end ?_ | refine g_then ?_ | refine g_in_normal ?_ | refine g_then_ret ?_ | refine g_in_ret ?_ | refine g_then_exit ?_ | refine g_in_exit rfl ?_ | refine g_in_exit_ne (by decide) ?_ | refine g_seq ?_ | refine g_region ?_ | refine g_block ?_ | refine g_ret ?_ | refine g_return_n ?_ | refine g_exit ?_ | refine g_skip ?_)
  refine o_lss rfl rfl ?_
  first | refine g_endt ?_ | refine g_end ?_
  first | refine g_seq (g_cond_f rfl (rfl) ?_) | refine g_cond_f rfl (rfl) ?_
  repeat (first | refine g_endt ?_ | refine g_end ?_ | refine g_then ?_ | refine g_in_normal ?_ | refine g_then_ret ?_ | refine g_in_ret ?_ | refine g_then_exit ?_ | refine g_in_exit rfl ?_ | refine g_in_exit_ne (by decide) ?_ | refine g_seq ?_ | refine g_region ?_ | refine g_block ?_ | refine g_ret ?_ | refine g_return_n ?_ | refine g_exit ?_ | refine g_skip ?_)
  refine o_move ?_
  refine o_assign ?_
  first | refine g_endt ?_ | refine g_end ?_
  repeat (first | refine g_endt ?_ | refine g_end ?_ | refine g_then ?_ | refine g_in_normal ?_ | refine g_then_ret ?_ | refine g_in_ret ?_ | refine g_then_exit ?_ | refine g_in_exit rfl ?_ | refine g_in_exit_ne (by decide) ?_ | refine g_seq ?_ | refine g_region ?_ | refine g_block ?_ | refine g_ret ?_ | refine g_return_n ?_ | refine g_exit ?_ | refine g_skip ?_)
  exact ret1 rfl (resT rfl) ⟨p, rfl, rfl⟩
end Go.Proofs.Ytonjhakjnopbjaa
/- An ordered set's functions, for one type of members: Drop, Get, At, Len. -/
namespace Go.Proofs.Ytonjhakjnopbjaa
open Go Go.Sl
attribute [local irreducible] Code.wpIn roundPost bodyPostM runL Ret Meets Begin

theorem shiftSY (ys : List PgSY) (k i : Nat) (y : PgSY) (hk : k ≤ i) (hi : i + 1 < ys.length) (hy : ys[i + 1]? = some y) : ((ys.eraseIdx k).take i ++ ys.drop i).set i y = (ys.eraseIdx k).take (i + 1) ++ ys.drop (i + 1) := by
  have hle : (ys.eraseIdx k).length = ys.length - 1 := by rw [List.length_eraseIdx]; split <;> omega
  have h1 : ((ys.eraseIdx k).take i).length = i := by simp [hle]; omega
  have h2 : ys.drop i = ys[i] :: ys.drop (i + 1) := List.drop_eq_getElem_cons (by omega)
  have h3 : (ys.eraseIdx k)[i]? = some y := by rw [List.getElem?_eraseIdx, if_neg (by omega), hy]
  rw [List.set_append_right _ _ (by omega), h1, Nat.sub_self, h2, List.set_cons_zero, take_snocPSY _ i y h3]
  simp
theorem DropSY_spec (p : Nat) (ys : List PgSY) (x : PgSY) (hs : Srt PgSY.cmp ys) (hl : ys.length < 1000000000) : Ctr Try.prog 99 [.pointer (some ⟨p, 0, none⟩), x.val] [SetASY p ys]
    (fun v M => ∃ (k : Nat) (there : Bool), v = .bool there ∧ M = [SetASY p (cond there (ys.eraseIdx k) ys)] ∧ FindR PgSY.cmp ys x k there) := by
  refine spec_of Try.func99 rfl Try.ntmps99 rfl fun w0 F => ?_
  repeat (first | refine g_endt ?_ | refine g_end ?_ | refine g_then ?_ | refine g_in_normal ?_ | refine g_then_ret ?_ | refine g_in_ret ?_ | refine g_then_exit ?_ | refine g_in_exit rfl ?_ | refine g_in_exit_ne (by decide) ?_ | refine g_seq ?_ | refine g_region ?_ | refine g_block ?_ | refine g_ret ?_ | refine g_return_n ?_ | refine g_exit ?_ | refine g_skip ?_)
  refine o_boxc x.val.cells rfl rfl fun q => ?_
  refine o_assign ?_
  first | refine g_endt ?_ | refine g_end ?_
  repeat (first | refine g_endt ?_ | refine g_end ?_ | refine g_then ?_ | refine g_in_normal ?_ | refine g_then_ret ?_ | refine g_in_ret ?_ | refine g_then_exit ?_ | refine g_in_exit rfl ?_ | refine g_in_exit_ne (by decide) ?_ | refine g_seq ?_ | refine g_region ?_ | refine g_block ?_ | refine g_ret ?_ | refine g_return_n ?_ | refine g_exit ?_ | refine g_skip ?_)
  refine o_move ?_
  refine o_peql rfl ?_
  first | refine g_endt ?_ | refine g_end ?_
  first | refine g_seq (g_cond_f rfl (rfl) ?_) | refine g_cond_f rfl (rfl) ?_
  repeat (first | refine g_endt ?_ | refine g_end ?_ | refine g_then ?_ | refine g_in_normal ?_ | refine g_then_ret ?_ | refine g_in_ret ?_ | refine g_then_exit ?_ | refine g_in_exit rfl ?_ | refine g_in_exit_ne (by decide) ?_ | refine g_seq ?_ | refine g_region ?_ | refine g_block ?_ | refine g_ret ?_ | refine g_return_n ?_ | refine g_exit ?_ | refine g_skip ?_)
  refine o_move ?_
  refine o_loadN (v := x.val) rfl rfl rfl ?_
  refine o_call (findSY_spec p ys x hs (by omega)) rfl rfl ?_
  rintro _ _ ⟨k, there, rfl, rfl, hk⟩
  refine o_move ?_
  refine o_extract rfl rfl ?_
  refine o_extract rfl rfl ?_
  refine o_assign ?_
  refine o_assign ?_
  first | refine g_endt ?_ | refine g_end ?_
  repeat (first | refine g_endt ?_ | refine g_end ?_ | refine g_then ?_ | refine g_in_normal ?_ | refine g_then_ret ?_ | refine g_in_ret ?_ | refine g_then_exit ?_ | refine g_in_exit rfl ?_ | refine g_in_exit_ne (by decide) ?_ | refine g_seq ?_ | refine g_region ?_ | refine g_block ?_ | refine g_ret ?_ | refine g_return_n ?_ | refine g_exit ?_ | refine g_skip ?_)
  refine o_move ?_
  refine o_not rfl ?_
  refine g_endt ?_
  cases there
  case false =>
    first | refine g_seq (g_cond_t rfl (rfl) ?_) | refine g_cond_t rfl (rfl) ?_
    repeat (first | refine g_endt ?_ | refine g_end ?_ | refine g_then ?_ | refine g_in_normal ?_ | refine g_then_ret ?_ | refine g_in_ret ?_ | refine g_then_exit ?_ | refine g_in_exit rfl ?_ | refine g_in_exit_ne (by decide) ?_ | refine g_seq ?_ | refine g_region ?_ | refine g_block ?_ | refine g_ret ?_ | refine g_return_n ?_ | refine g_exit ?_ | refine g_skip ?_)
    refine o_assign ?_
    first | refine g_endt ?_ | refine g_end ?_
    repeat (first | refine g_endt ?_ | refine g_end ?_ | refine g_then ?_ | refine g_in_normal ?_ | refine g_then_ret ?_ | refine g_in_ret ?_ | refine g_then_exit ?_ | refine g_in_exit rfl ?_ | refine g_in_exit_ne (by decide) ?_ | refine g_seq ?_ | refine g_region ?_ | refine g_block ?_ | refine g_ret ?_ | refine g_return_n ?_ | refine g_exit ?_ | refine g_skip ?_)
    exact ret1 (K := [SetASY p ys]) rfl (resT rfl) ⟨k, false, rfl, rfl, hk⟩
  first | refine g_seq (g_cond_f rfl (rfl) ?_) | refine g_cond_f rfl (rfl) ?_
  have hk1 : k < ys.length := by
    obtain ⟨y, hy, _⟩ := hk.2.1 rfl
    exact (List.getElem?_eq_some_iff.1 hy).1
  repeat (first | refine g_endt ?_ | refine g_end ?_ | refine g_then ?_ | refine g_in_normal ?_ | refine g_then_ret ?_ | refine g_in_ret ?_ | refine g_then_exit ?_ | refine g_in_exit rfl ?_ | refine g_in_exit_ne (by decide) ?_ | refine g_seq ?_ | refine g_region ?_ | refine g_block ?_ | refine g_ret ?_ | refine g_return_n ?_ | refine g_exit ?_ | refine g_skip ?_)
  refine o_move ?_
  refine o_call (ownSY_spec p ys (by omega)) rfl rfl ?_
  rintro _ _ ⟨S, c, rfl⟩
  refine g_endt ?_
  repeat (first | refine g_endt ?_ | refine g_end ?_ | refine g_then ?_ | refine g_in_normal ?_ | refine g_then_ret ?_ | refine g_in_ret ?_ | refine g_then_exit ?_ | refine g_in_exit rfl ?_ | refine g_in_exit_ne (by decide) ?_ | refine g_seq ?_ | refine g_region ?_ | refine g_block ?_ | refine g_ret ?_ | refine g_return_n ?_ | refine g_exit ?_ | refine g_skip ?_)
  refine o_move ?_
  refine o_assign ?_
  first | refine g_endt ?_ | refine g_end ?_
  repeat (first | refine g_endt ?_ | refine g_end ?_ | refine g_then ?_ | refine g_in_normal ?_ | refine g_then_ret ?_ | refine g_in_ret ?_ | refine g_then_exit ?_ | refine g_in_exit rfl ?_ | refine g_in_exit_ne (by decide) ?_ | refine g_seq ?_ | refine g_region ?_ | refine g_block ?_ | refine g_ret ?_ | refine g_return_n ?_ | refine g_exit ?_ | refine g_skip ?_)
  have h0 : (ys.eraseIdx k).take k ++ ys.drop k = ys := by
    rw [List.eraseIdx_eq_take_drop_succ, List.take_append_of_le_length (by simp; omega), List.take_take, Nat.min_self, List.take_append_drop]
  refine g_loop (σ := {i : Nat // k ≤ i ∧ i + 1 ≤ ys.length})
    (S := fun i => [(0, .pointer (some ⟨p, 0, none⟩)), (7, .int .i64 (i.1 : Int))])
    (H := fun i => [cellsB p #[.slice S ys.length c, .bool false] 143, osl 126 PgSY.enc 4 S c ((ys.eraseIdx k).take i.1 ++ ys.drop i.1)]) (μ := fun i => ys.length - i.1)
    (s0 := ⟨k, Nat.le_refl _, hk1⟩) (Sat.mem ⟨rfl, rfl, trivial⟩) (t := by simp only [h0]; infer_instance) ?_
  rintro ⟨i, h1, h2⟩ ρ'
  dsimp only at h1 h2 ⊢
  have hle : (ys.eraseIdx k).length = ys.length - 1 := by rw [List.length_eraseIdx, if_pos hk1]
  have hlen : ((ys.eraseIdx k).take i ++ ys.drop i).length = ys.length := by simp [hle]; omega
  repeat (first | refine g_endt ?_ | refine g_end ?_ | refine g_then ?_ | refine g_in_normal ?_ | refine g_then_ret ?_ | refine g_in_ret ?_ | refine g_then_exit ?_ | refine g_in_exit rfl ?_ | refine g_in_exit_ne (by decide) ?_ | refine g_seq ?_ | refine g_region ?_ | refine g_block ?_ | refine g_ret ?_ | refine g_return_n ?_ | refine g_exit ?_ | refine g_skip ?_)
  refine o_move ?_
  refine o_add (c := ((i + 1 : Nat) : Int)) rfl rfl (by omega) (by omega) (by omega) ?_
  refine o_move ?_
  refine o_nil rfl ?_
  refine o_field rfl ?_
  refine o_load1 (v := .slice S ys.length c) rfl rfl ?_
  refine o_len rfl rfl ?_
  refine o_lss rfl rfl ?_
  refine g_endt ?_
  by_cases h : i + 1 < ys.length
  · first | refine g_seq (g_cond_t rfl (by simp; omega) ?_) | refine g_cond_t rfl (by simp; omega) ?_
    repeat (first | refine g_endt ?_ | refine g_end ?_ | refine g_then ?_ | refine g_in_normal ?_ | refine g_then_ret ?_ | refine g_in_ret ?_ | refine g_then_exit ?_ | refine g_in_exit rfl ?_ | refine g_in_exit_ne (by decide) ?_ | refine g_seq ?_ | refine g_region ?_ | refine g_block ?_ | refine g_ret ?_ | refine g_return_n ?_ | refine g_exit ?_ | refine g_skip ?_)
    obtain ⟨y, hy⟩ : ∃ y, ys[i + 1]? = some y := ⟨_, List.getElem?_eq_getElem h⟩
    have hz : ((ys.eraseIdx k).take i ++ ys.drop i)[i + 1]? = some y := by
      have h3 : ((ys.eraseIdx k).take i).length = i := by simp [hle]; omega
      rw [List.getElem?_append_right (by omega), h3, List.getElem?_drop, show i + (i + 1 - i) = i + 1 by omega, hy]
    refine g_draw [14] [0,1,2,3,4,5,6,7,8,9,10,11,12,13,14] [cellsB p #[.slice S ys.length c, .bool false] 143, osl 126 PgSY.enc 4 S c ((ys.eraseIdx k).take i ++ ys.drop i)] mixed rfl ?_
    refine ob_q rfl rfl ⟨_, fun X Q h => o_move (g_end (h _ _ ⟨rfl, rfl⟩)), ?_⟩
    refine ob_q rfl rfl ⟨_, fun X Q h => o_nil rfl (g_end (h _ _ ⟨rfl, rfl⟩)), ?_⟩
    refine ob_q rfl rfl ⟨_, fun X Q h => o_field rfl (g_end (h _ _ ⟨rfl, rfl⟩)), ?_⟩
    refine ob_q rfl rfl ⟨_, fun X Q h => o_load1 (v := .slice S ys.length c) rfl rfl (g_end (h _ _ ⟨rfl, rfl⟩)), ?_⟩
    refine ob_q rfl rfl ⟨_, fun X Q h => o_move (g_end (h _ _ ⟨rfl, rfl⟩)), ?_⟩
    refine ob_q rfl rfl ⟨_, fun X Q h => o_move (g_end (h _ _ ⟨rfl, rfl⟩)), ?_⟩
    refine ob_q rfl rfl ⟨_, fun X Q h => o_nil rfl (g_end (h _ _ ⟨rfl, rfl⟩)), ?_⟩
    refine ob_q rfl rfl ⟨_, fun X Q h => o_field rfl (g_end (h _ _ ⟨rfl, rfl⟩)), ?_⟩
    refine ob_q rfl rfl ⟨_, fun X Q h => o_load1 (v := .slice S ys.length c) rfl rfl (g_end (h _ _ ⟨rfl, rfl⟩)), ?_⟩
    refine ob_q rfl rfl ⟨_, fun X Q h => o_move (g_end (h _ _ ⟨rfl, rfl⟩)), ?_⟩
    refine ob_q rfl rfl ⟨_, fun X Q h => o_add (c := ((i + 1 : Nat) : Int)) rfl rfl (by omega) (by omega) (by omega) (g_end (h _ _ ⟨rfl, rfl⟩)), ?_⟩
    refine ob_q rfl rfl ⟨_, fun X Q h => o_indexR (i := i + 1) rfl rfl rfl (by omega) hlen rfl (g_end (h _ _ ⟨rfl, rfl⟩)), ?_⟩
    refine ob_q rfl rfl ⟨_, fun X Q h => o_loadE (enc := PgSY.enc) rfl rfl hz (g_end (h _ _ ⟨rfl, rfl⟩)), ?_⟩
    refine ob_q rfl rfl ⟨_, fun X Q h => o_indexR (i := i) rfl rfl rfl (by omega) hlen rfl (g_end (h _ _ ⟨rfl, rfl⟩)), ?_⟩
    refine ob_s ([]) rfl rfl rfl fun Qz hz => o_storeE (e := 126) (c := c) (v := y.val) (z := y) (i := i) (enc := PgSY.enc) (xs := (ys.eraseIdx k).take i ++ ys.drop i) rfl rfl rfl rfl (by omega) <| g_end (hz _ _ ⟨_, ob_fin, ?_⟩)
    clear hz Qz
    refine ob_nil ?_
    rw [shiftSY ys k i y h1 h hy]
    repeat (first | refine g_endt ?_ | refine g_end ?_ | refine g_then ?_ | refine g_in_normal ?_ | refine g_then_ret ?_ | refine g_in_ret ?_ | refine g_then_exit ?_ | refine g_in_exit rfl ?_ | refine g_in_exit_ne (by decide) ?_ | refine g_seq ?_ | refine g_region ?_ | refine g_block ?_ | refine g_ret ?_ | refine g_return_n ?_ | refine g_exit ?_ | refine g_skip ?_)
    refine o_move ?_
    refine o_add (c := ((i + 1 : Nat) : Int)) rfl rfl (by omega) (by omega) (by omega) ?_
    refine o_assign ?_
    refine g_endt ?_
    repeat (first | refine g_endt ?_ | refine g_end ?_ | refine g_then ?_ | refine g_in_normal ?_ | refine g_then_ret ?_ | refine g_in_ret ?_ | refine g_then_exit ?_ | refine g_in_exit rfl ?_ | refine g_in_exit_ne (by decide) ?_ | refine g_seq ?_ | refine g_region ?_ | refine g_block ?_ | refine g_ret ?_ | refine g_return_n ?_ | refine g_exit ?_ | refine g_skip ?_)
    exact g_meets ⟨i + 1, by omega, by omega⟩ (by show ys.length - (i + 1) < ys.length - i; omega) (Sat.mem ⟨rfl, rfl, trivial⟩)
  · first | refine g_seq (g_cond_f rfl (by simp; omega) ?_) | refine g_cond_f rfl (by simp; omega) ?_
    repeat (first | refine g_endt ?_ | refine g_end ?_ | refine g_then ?_ | refine g_in_normal ?_ | refine g_then_ret ?_ | refine g_in_ret ?_ | refine g_then_exit ?_ | refine g_in_exit rfl ?_ | refine g_in_exit_ne (by decide) ?_ | refine g_seq ?_ | refine g_region ?_ | refine g_block ?_ | refine g_ret ?_ | refine g_return_n ?_ | refine g_exit ?_ | refine g_skip ?_)
    refine g_draw [14] [0,1,2,3,4,5,6,7,8,9,10,11,12,13,14] [cellsB p #[.slice S ys.length c, .bool false] 143, osl 126 PgSY.enc 4 S c ((ys.eraseIdx k).take i ++ ys.drop i)] mixed rfl ?_
    refine ob_q rfl rfl ⟨_, fun X Q h => o_move (g_end (h _ _ ⟨rfl, rfl⟩)), ?_⟩
    refine ob_q rfl rfl ⟨_, fun X Q h => o_move (g_end (h _ _ ⟨rfl, rfl⟩)), ?_⟩
    refine ob_q rfl rfl ⟨_, fun X Q h => o_nil rfl (g_end (h _ _ ⟨rfl, rfl⟩)), ?_⟩
    refine ob_q rfl rfl ⟨_, fun X Q h => o_field rfl (g_end (h _ _ ⟨rfl, rfl⟩)), ?_⟩
    refine ob_q rfl rfl ⟨_, fun X Q h => o_load1 (v := .slice S ys.length c) rfl rfl (g_end (h _ _ ⟨rfl, rfl⟩)), ?_⟩
    refine ob_q rfl rfl ⟨_, fun X Q h => o_move (g_end (h _ _ ⟨rfl, rfl⟩)), ?_⟩
    refine ob_q rfl rfl ⟨_, fun X Q h => o_nil rfl (g_end (h _ _ ⟨rfl, rfl⟩)), ?_⟩
    refine ob_q rfl rfl ⟨_, fun X Q h => o_field rfl (g_end (h _ _ ⟨rfl, rfl⟩)), ?_⟩
    refine ob_q rfl rfl ⟨_, fun X Q h => o_load1 (v := .slice S ys.length c) rfl rfl (g_end (h _ _ ⟨rfl, rfl⟩)), ?_⟩
    refine ob_q rfl rfl ⟨_, fun X Q h => o_len rfl rfl (g_end (h _ _ ⟨rfl, rfl⟩)), ?_⟩
    refine ob_q rfl rfl ⟨_, fun X Q h => o_sub (c := ((ys.length - 1 : Nat) : Int)) rfl rfl (by omega) (by omega) (by omega) (g_end (h _ _ ⟨rfl, rfl⟩)), ?_⟩
    refine ob_q rfl rfl ⟨_, fun X Q h => o_uptoR (e := 126) (enc := PgSY.enc) (sz := 4) (c := c) (k := ys.length - 1) (xs := (ys.eraseIdx k).take i ++ ys.drop i) rfl rfl rfl hlen (by omega) (g_end (h _ _ ⟨rfl, rfl⟩)), ?_⟩
    refine ob_q rfl rfl ⟨_, fun X Q h => o_nil rfl (g_end (h _ _ ⟨rfl, rfl⟩)), ?_⟩
    refine ob_q rfl rfl ⟨_, fun X Q h => o_field rfl (g_end (h _ _ ⟨rfl, rfl⟩)), ?_⟩
    refine ob_s ([]) rfl rfl rfl fun Qz hz => o_store (v := .slice S (ys.length - 1) c) rfl rfl rfl rfl rfl <| g_end (hz _ _ ⟨_, ob_fin, ?_⟩)
    clear hz Qz
    refine ob_nil ?_
    refine G.norm p #[.slice S (ys.length - 1) c, .bool false] rfl ?_
    refine G.shorten (e := 126) (enc := PgSY.enc) (sz := 4) (S := S) (c := c) (xs := (ys.eraseIdx k).take i ++ ys.drop i) (ys.length - 1) (by omega) ?_
    have he : ((ys.eraseIdx k).take i ++ ys.drop i).take (ys.length - 1) = ys.eraseIdx k := by
      have h3 : ((ys.eraseIdx k).take i).length = ys.length - 1 := by simp [hle]; omega
      rw [List.take_append_of_le_length (by omega), List.take_of_length_le (by omega), List.take_of_length_le (by omega)]
    rw [he]
    repeat (first | refine g_endt ?_ | refine g_end ?_ | refine g_then ?_ | refine g_in_normal ?_ | refine g_then_ret ?_ | refine g_in_ret ?_ | refine g_then_exit ?_ | refine g_in_exit rfl ?_ | refine g_in_exit_ne (by decide) ?_ | refine g_seq ?_ | refine g_region ?_ | refine g_block ?_ | refine g_ret ?_ | refine g_return_n ?_ | refine g_exit ?_ | refine g_skip ?_)
    refine o_assign ?_
    first | refine g_endt ?_ | refine g_end ?_
    refine shutFSY p (ys.eraseIdx k) S c (len := ys.length - 1) hle ?_
    repeat (first | refine g_endt ?_ | refine g_end ?_ | refine g_then ?_ | refine g_in_normal ?_ | refine g_then_ret ?_ | refine g_in_ret ?_ | refine g_then_exit ?_ | refine g_in_exit rfl ?_ | refine g_in_exit_ne (by decide) ?_ | refine g_seq ?_ | refine g_region ?_ | refine g_block ?_ | refine g_ret ?_ | refine g_return_n ?_ | refine g_exit ?_ | refine g_skip ?_)
    exact ret1 (K := [SetASY p (ys.eraseIdx k)]) rfl (resT rfl) ⟨k, true, rfl, rfl, hk⟩
end Go.Proofs.Ytonjhakjnopbjaa
/- An ordered set's functions, for one type of members: asked. -/
namespace Go.Proofs.Ytonjhakjnopbjaa
open Go Go.Sl
attribute [local irreducible] Code.wpIn roundPost bodyPostM runL Ret Meets Begin

/-- What Get tells. -/
def GetRSY (ys : List PgSY) (x : PgSY) (o : Option PgSY) : Prop := match o with
  | some y => ∃ k, FindR PgSY.cmp ys x k true ∧ ys[k]? = some y
  | none => ∃ k, FindR PgSY.cmp ys x k false
theorem GetSY_spec (p : Nat) (ys : List PgSY) (x : PgSY) (hs : Srt PgSY.cmp ys) (hl : ys.length < 1000000000) : Ctr Try.prog 88 [.pointer (some ⟨p, 0, none⟩), x.val] [SetASY p ys]
    (fun v M => ∃ (o : Option PgSY), v = .tuple #[(o.getD PgSY.zero).val, .bool o.isSome] ∧ M = [SetASY p ys] ∧ GetRSY ys x o) := by
  refine spec_of Try.func88 rfl Try.ntmps88 rfl fun w0 F => ?_
  repeat (first | refine g_endt ?_ | refine g_end ?_ | refine g_then ?_ | refine g_in_normal ?_ | refine g_then_ret ?_ | refine g_in_ret ?_ | refine g_then_exit ?_ | refine g_in_exit rfl ?_ | refine g_in_exit_ne (by decide) ?_ | refine g_seq ?_ | refine g_region ?_ | refine g_block ?_ | refine g_ret ?_ | refine g_return_n ?_ | refine g_exit ?_ | refine g_skip ?_)
  refine o_boxc x.val.cells rfl rfl fun q => ?_
  refine o_alloc fun r => ?_
  refine o_assign ?_
  first | refine g_endt ?_ | refine g_end ?_
  repeat (first | refine g_endt ?_ | refine g_end ?_ | refine g_then ?_ | refine g_in_normal ?_ | refine g_then_ret ?_ | refine g_in_ret ?_ | refine g_then_exit ?_ | refine g_in_exit rfl ?_ | refine g_in_exit_ne (by decide) ?_ | refine g_seq ?_ | refine g_region ?_ | refine g_block ?_ | refine g_ret ?_ | refine g_return_n ?_ | refine g_exit ?_ | refine g_skip ?_)
  refine o_alloc fun z => ?_
  refine g_endt ?_
  repeat (first | refine g_endt ?_ | refine g_end ?_ | refine g_then ?_ | refine g_in_normal ?_ | refine g_then_ret ?_ | refine g_in_ret ?_ | refine g_then_exit ?_ | refine g_in_exit rfl ?_ | refine g_in_exit_ne (by decide) ?_ | refine g_seq ?_ | refine g_region ?_ | refine g_block ?_ | refine g_ret ?_ | refine g_return_n ?_ | refine g_exit ?_ | refine g_skip ?_)
  refine o_move ?_
  refine o_peql rfl ?_
  first | refine g_endt ?_ | refine g_end ?_
  first | refine g_seq (g_cond_f rfl (rfl) ?_) | refine g_cond_f rfl (rfl) ?_
  repeat (first | refine g_endt ?_ | refine g_end ?_ | refine g_then ?_ | refine g_in_normal ?_ | refine g_then_ret ?_ | refine g_in_ret ?_ | refine g_then_exit ?_ | refine g_in_exit rfl ?_ | refine g_in_exit_ne (by decide) ?_ | refine g_seq ?_ | refine g_region ?_ | refine g_block ?_ | refine g_ret ?_ | refine g_return_n ?_ | refine g_exit ?_ | refine g_skip ?_)
  refine o_move ?_
  refine o_loadN (v := x.val) rfl rfl rfl ?_
  refine o_call (findSY_spec p ys x hs (by omega)) rfl rfl ?_
  rintro _ _ ⟨k, there, rfl, rfl, hk⟩
  refine o_move ?_
  refine o_extract rfl rfl ?_
  refine o_extract rfl rfl ?_
  refine o_assign ?_
  refine o_assign ?_
  first | refine g_endt ?_ | refine g_end ?_
  repeat (first | refine g_endt ?_ | refine g_end ?_ | refine g_then ?_ | refine g_in_normal ?_ | refine g_then_ret ?_ | refine g_in_ret ?_ | refine g_then_exit ?_ | refine g_in_exit rfl ?_ | refine g_in_exit_ne (by decide) ?_ | refine g_seq ?_ | refine g_region ?_ | refine g_block ?_ | refine g_ret ?_ | refine g_return_n ?_ | refine g_exit ?_ | refine g_skip ?_)
  refine o_move ?_
  refine o_not rfl ?_
  refine g_endt ?_
  cases there
  case false =>
    first | refine g_seq (g_cond_t rfl (rfl) ?_) | refine g_cond_t rfl (rfl) ?_
    repeat (first | refine g_endt ?_ | refine g_end ?_ | refine g_then ?_ | refine g_in_normal ?_ | refine g_then_ret ?_ | refine g_in_ret ?_ | refine g_then_exit ?_ | refine g_in_exit rfl ?_ | refine g_in_exit_ne (by decide) ?_ | refine g_seq ?_ | refine g_region ?_ | refine g_block ?_ | refine g_ret ?_ | refine g_return_n ?_ | refine g_exit ?_ | refine g_skip ?_)
    refine o_loadN (v := PgSY.zero.val) rfl rfl rfl ?_
    refine o_store (v := PgSY.zero.val) rfl rfl rfl rfl rfl ?_
    refine o_assign ?_
    first | refine g_endt ?_ | refine g_end ?_
    refine G.norm r PgSY.zero.val.cells rfl ?_
    repeat (first | refine g_endt ?_ | refine g_end ?_ | refine g_then ?_ | refine g_in_normal ?_ | refine g_then_ret ?_ | refine g_in_ret ?_ | refine g_then_exit ?_ | refine g_in_exit rfl ?_ | refine g_in_exit_ne (by decide) ?_ | refine g_seq ?_ | refine g_region ?_ | refine g_block ?_ | refine g_ret ?_ | refine g_return_n ?_ | refine g_exit ?_ | refine g_skip ?_)
    exact ret2 (K := [SetASY p ys]) rfl (resCN (v := PgSY.zero.val) rfl rfl rfl) (resT rfl) ⟨none, rfl, rfl, k, hk⟩
  first | refine g_seq (g_cond_f rfl (rfl) ?_) | refine g_cond_f rfl (rfl) ?_
  obtain ⟨y, hy, hc⟩ := hk.2.1 rfl
  have hk1 : k < ys.length := (List.getElem?_eq_some_iff.1 hy).1
  repeat (first | refine g_endt ?_ | refine g_end ?_ | refine g_then ?_ | refine g_in_normal ?_ | refine g_then_ret ?_ | refine g_in_ret ?_ | refine g_then_exit ?_ | refine g_in_exit rfl ?_ | refine g_in_exit_ne (by decide) ?_ | refine g_seq ?_ | refine g_region ?_ | refine g_block ?_ | refine g_ret ?_ | refine g_return_n ?_ | refine g_exit ?_ | refine g_skip ?_)
  refine openSY p ys fun S c b => ?_
  refine o_move ?_
  refine o_nil rfl ?_
  refine o_field rfl ?_
  refine o_load1 (v := .slice S ys.length c) rfl rfl ?_
  refine o_move ?_
  refine o_indexR (ys := ys) (i := k) rfl rfl rfl hk1 rfl rfl ?_
  refine o_loadE (ys := ys) rfl rfl hy ?_
  refine o_store (v := y.val) rfl rfl rfl rfl rfl ?_
  refine o_assign ?_
  first | refine g_endt ?_ | refine g_end ?_
  refine G.norm r y.val.cells rfl ?_
  refine shutSY p ys S c b rfl ?_
  repeat (first | refine g_endt ?_ | refine g_end ?_ | refine g_then ?_ | refine g_in_normal ?_ | refine g_then_ret ?_ | refine g_in_ret ?_ | refine g_then_exit ?_ | refine g_in_exit rfl ?_ | refine g_in_exit_ne (by decide) ?_ | refine g_seq ?_ | refine g_region ?_ | refine g_block ?_ | refine g_ret ?_ | refine g_return_n ?_ | refine g_exit ?_ | refine g_skip ?_)
  exact ret2 (K := [SetASY p ys]) rfl (resCN (v := y.val) rfl rfl rfl) (resT rfl) ⟨some y, rfl, rfl, k, hk, hy⟩
end Go.Proofs.Ytonjhakjnopbjaa
/- An ordered map's functions, for one type of keys and one of values: made, put. -/
namespace Go.Proofs.Ytonjhakjnopbjaa
open Go Go.Sl
attribute [local irreducible] Code.wpIn roundPost bodyPostM runL Ret Meets Begin

theorem GetMSY_spec (p : Nat) (ys : List PgSY) (x : PgSY) (hs : Srt PgSY.cmp ys) (hl : ys.length < 1000000000) : Ctr Try.prog 88 [.pointer (some ⟨p, 0, none⟩), x.val] [SetASY p ys]
    (fun v M => v = .tuple #[((getM PgSY.cmp ys x).getD PgSY.zero).val, .bool (getM PgSY.cmp ys x).isSome] ∧ M = [SetASY p ys]) := (GetSY_spec p ys x hs hl).mono fun v M ⟨o, h1, h2, h3⟩ => by
  have : getM PgSY.cmp ys x = o := by
    cases o with
    | none => obtain ⟨k, hk⟩ := h3; exact getM_none hk
    | some y => obtain ⟨k, hk, hy⟩ := h3; exact getM_some PgSY.lin hs hk hy
  rw [this]
  exact ⟨h1, h2⟩
def MapASY (m : Nat) (ys : List PgSY) : SProp := ex fun p : Nat => sl [cellsB m #[.pointer (some ⟨p, 0, none⟩)] 130, SetASY p ys]
section
variable {w0 : World} {A : SProp} {L M : List SProp} {Φ : World → Prop}
theorem openMSY (m : Nat) (ys : List PgSY) [tk : Take1 L (MapASY m ys) M] (h : ∀ p, G w0 A (SetASY p ys :: cellsB m #[.pointer (some ⟨p, 0, none⟩)] 130 :: M) Φ) : G w0 A L Φ :=
  G.perm tk.perm (G.ex fun p => G.open_sl (G.perm (List.Perm.swap _ _ _) (h p)))
theorem shutMSY (m p : Nat) (ys : List PgSY) [tk : Take L [cellsB m #[.pointer (some ⟨p, 0, none⟩)] 130, SetASY p ys] M] (h : G w0 A (MapASY m ys :: M) Φ) : G w0 A L Φ :=
  G.perm tk.perm (G.ent ((sl_append_to _ M).trans (Ent.star (show Ent _ (MapASY m ys) from fun _ _ x => ⟨p, x⟩) (Ent.refl _))) h)
end
theorem MapASY_of (m p : Nat) (ys : List PgSY) {L M : List SProp} [tk : Take1 L (MapASY m ys) M] : Ent (sl (SetASY p ys :: cellsB m #[.pointer (some ⟨p, 0, none⟩)] 130 :: M)) (sl L) := by
  refine Ent.trans ?_ (sl_perm tk.perm.symm)
  refine (sl_perm (List.Perm.swap (cellsB m #[.pointer (some ⟨p, 0, none⟩)] 130) (SetASY p ys) M)).trans ?_
  exact (sl_append_to [cellsB m #[.pointer (some ⟨p, 0, none⟩)] 130, SetASY p ys] M).trans (Ent.star (show Ent _ (MapASY m ys) from fun _ _ x => ⟨p, x⟩) (Ent.refl _))
theorem atSY_spec (k : SymD) : Ctr Try.prog 89 [k.val] [] (fun v M => v = (PgSY.mk k PgSY.zero.v).val ∧ M = []) := by
  refine spec_of Try.func89 rfl Try.ntmps89 rfl fun w0 F => ?_
  repeat (first | refine g_endt ?_ | refine g_end ?_ | refine g_then ?_ | refine g_in_normal ?_ | refine g_then_ret ?_ | refine g_in_ret ?_ | refine g_then_exit ?_ | refine g_in_exit rfl ?_ | refine g_in_exit_ne (by decide) ?_ | refine g_seq ?_ | refine g_region ?_ | refine g_block ?_ | refine g_ret ?_ | refine g_return_n ?_ | refine g_exit ?_ | refine g_skip ?_)
  refine o_boxc k.val.cells rfl rfl fun b => ?_
  refine o_alloc fun r => ?_
  refine g_endt ?_
  repeat (first | refine g_endt ?_ | refine g_end ?_ | refine g_then ?_ | refine g_in_normal ?_ | refine g_then_ret ?_ | refine g_in_ret ?_ | refine g_then_exit ?_ | refine g_in_exit rfl ?_ | refine g_in_exit_ne (by decide) ?_ | refine g_seq ?_ | refine g_region ?_ | refine g_block ?_ | refine g_ret ?_ | refine g_return_n ?_ | refine g_exit ?_ | refine g_skip ?_)
  refine o_loadN (v := k.val) rfl rfl rfl ?_
  refine o_build (PgSY.mk k PgSY.zero.v).val (fun w => by kernel_rfl) ?_
  refine o_store (v := (PgSY.mk k PgSY.zero.v).val) rfl rfl rfl rfl rfl ?_
  refine g_endt ?_
  repeat (first | refine g_endt ?_ | refine g_end ?_ | refine g_then ?_ | refine g_in_normal ?_ | refine g_then_ret ?_ | refine g_in_ret ?_ | refine g_then_exit ?_ | refine g_in_exit rfl ?_ | refine g_in_exit_ne (by decide) ?_ | refine g_seq ?_ | refine g_region ?_ | refine g_block ?_ | refine g_ret ?_ | refine g_return_n ?_ | refine g_exit ?_ | refine g_skip ?_)
  exact ret1 rfl (resCN (v := (PgSY.mk k PgSY.zero.v).val) rfl rfl rfl) ⟨rfl, rfl⟩
theorem NewMSY_spec : Ctr Try.prog 86 [] [] (fun v M => ∃ m, v = .pointer (some ⟨m, 0, none⟩) ∧ M = [MapASY m []]) := by
  refine spec_of Try.func86 rfl Try.ntmps86 rfl fun w0 F => ?_
  repeat (first | refine g_endt ?_ | refine g_end ?_ | refine g_then ?_ | refine g_in_normal ?_ | refine g_then_ret ?_ | refine g_in_ret ?_ | refine g_then_exit ?_ | refine g_in_exit rfl ?_ | refine g_in_exit_ne (by decide) ?_ | refine g_seq ?_ | refine g_region ?_ | refine g_block ?_ | refine g_ret ?_ | refine g_return_n ?_ | refine g_exit ?_ | refine g_skip ?_)
  refine o_assign ?_
  first | refine g_endt ?_ | refine g_end ?_
  repeat (first | refine g_endt ?_ | refine g_end ?_ | refine g_then ?_ | refine g_in_normal ?_ | refine g_then_ret ?_ | refine g_in_ret ?_ | refine g_then_exit ?_ | refine g_in_exit rfl ?_ | refine g_in_exit_ne (by decide) ?_ | refine g_seq ?_ | refine g_region ?_ | refine g_block ?_ | refine g_ret ?_ | refine g_return_n ?_ | refine g_exit ?_ | refine g_skip ?_)
  refine o_call NewSY_spec rfl rfl ?_
  rintro _ _ ⟨p, rfl, rfl⟩
  refine o_build (.agg #[.pointer (some ⟨p, 0, none⟩)]) (fun w => by kernel_rfl) ?_
  refine o_boxc #[.pointer (some ⟨p, 0, none⟩)] rfl rfl fun m => ?_
  refine o_assign ?_
  refine g_endt ?_
  refine shutMSY m p [] ?_
  repeat (first | refine g_endt ?_ | refine g_end ?_ | refine g_then ?_ | refine g_in_normal ?_ | refine g_then_ret ?_ | refine g_in_ret ?_ | refine g_then_exit ?_ | refine g_in_exit rfl ?_ | refine g_in_exit_ne (by decide) ?_ | refine g_seq ?_ | refine g_region ?_ | refine g_block ?_ | refine g_ret ?_ | refine g_return_n ?_ | refine g_exit ?_ | refine g_skip ?_)
  exact ret1 rfl (resT rfl) ⟨m, rfl, rfl⟩
/-- What a map is behind a Put of k with v that has found place i. -/
def putLSY (ys : List PgSY) (k : SymD) (v : Option Nat) (i : Nat) (there : Bool) : List PgSY := cond there (ys.set i ⟨(ys[i]?.map (·.k)).getD k, v⟩) (ys.take i ++ ⟨k, v⟩ :: ys.drop i)
theorem PutMSY_spec (m : Nat) (ys : List PgSY) (k : SymD) (v : Option Nat) (hs : Srt PgSY.cmp ys) (hl : ys.length < 999999999) : Ctr Try.prog 87 [.pointer (some ⟨m, 0, none⟩), k.val, PgSY.vval v] [MapASY m ys]
    (fun u M => ∃ (i : Nat) (there : Bool), u = .bool !there ∧ M = [MapASY m (putLSY ys k v i there)] ∧ FindR PgSY.cmp ys ⟨k, v⟩ i there) := by
  refine spec_of Try.func87 rfl Try.ntmps87 rfl fun w0 F => ?_
  repeat (first | refine g_endt ?_ | refine g_end ?_ | refine g_then ?_ | refine g_in_normal ?_ | refine g_then_ret ?_ | refine g_in_ret ?_ | refine g_then_exit ?_ | refine g_in_exit rfl ?_ | refine g_in_exit_ne (by decide) ?_ | refine g_seq ?_ | refine g_region ?_ | refine g_block ?_ | refine g_ret ?_ | refine g_return_n ?_ | refine g_exit ?_ | refine g_skip ?_)
  refine openMSY m ys fun p => ?_
  refine o_boxc k.val.cells rfl rfl fun b => ?_
  refine o_assign ?_
  first | refine g_endt ?_ | refine g_end ?_
  repeat (first | refine g_endt ?_ | refine g_end ?_ | refine g_then ?_ | refine g_in_normal ?_ | refine g_then_ret ?_ | refine g_in_ret ?_ | refine g_then_exit ?_ | refine g_in_exit rfl ?_ | refine g_in_exit_ne (by decide) ?_ | refine g_seq ?_ | refine g_region ?_ | refine g_block ?_ | refine g_ret ?_ | refine g_return_n ?_ | refine g_exit ?_ | refine g_skip ?_)
  refine o_move ?_
  refine o_peql rfl ?_
  first | refine g_endt ?_ | refine g_end ?_
  first | refine g_seq (g_cond_f rfl (rfl) ?_) | refine g_cond_f rfl (rfl) ?_
  repeat (first | refine g_endt ?_ | refine g_end ?_ | refine g_then ?_ | refine g_in_normal ?_ | refine g_then_ret ?_ | refine g_in_ret ?_ | refine g_then_exit ?_ | refine g_in_exit rfl ?_ | refine g_in_exit_ne (by decide) ?_ | refine g_seq ?_ | refine g_region ?_ | refine g_block ?_ | refine g_ret ?_ | refine g_return_n ?_ | refine g_exit ?_ | refine g_skip ?_)
  refine g_draw [10, 11] [0,1,2,3,4,5,6,7,8,9,10,11,12] [SetASY p ys, cellsB m #[.pointer (some ⟨p, 0, none⟩)] 130, cellsB b k.val.cells 31] mixed rfl ?_
  refine ob_q rfl rfl ⟨_, fun X Q h => o_move (g_end (h _ _ ⟨rfl, rfl⟩)), ?_⟩
  refine ob_q rfl rfl ⟨_, fun X Q h => o_nil rfl (g_end (h _ _ ⟨rfl, rfl⟩)), ?_⟩
  refine ob_q rfl rfl ⟨_, fun X Q h => o_field rfl (g_end (h _ _ ⟨rfl, rfl⟩)), ?_⟩
  refine ob_q rfl rfl ⟨_, fun X Q h => o_load1 (v := .pointer (some ⟨p, 0, none⟩)) rfl rfl (g_end (h _ _ ⟨rfl, rfl⟩)), ?_⟩
  refine ob_q rfl rfl ⟨_, fun X Q h => o_loadN (v := k.val) rfl rfl rfl (g_end (h _ _ ⟨rfl, rfl⟩)), ?_⟩
  refine ob_q rfl rfl ⟨_, fun X Q h => o_call (atSY_spec k) rfl rfl <| by rintro _ _ ⟨rfl, rfl⟩; exact (g_end (h _ _ ⟨rfl, rfl⟩)), ?_⟩
  refine ob_q rfl rfl ⟨_, fun X Q h => o_call (GetMSY_spec p ys ⟨k, PgSY.zero.v⟩ hs (by omega)) rfl rfl <| by rintro _ _ ⟨rfl, rfl⟩; exact (g_end (h _ _ ⟨rfl, rfl⟩)), ?_⟩
  refine ob_q rfl rfl ⟨_, fun X Q h => o_move (g_end (h _ _ ⟨rfl, rfl⟩)), ?_⟩
  refine ob_q rfl rfl ⟨_, fun X Q h => o_extract rfl rfl (g_end (h _ _ ⟨rfl, rfl⟩)), ?_⟩
  refine ob_q rfl rfl ⟨_, fun X Q h => o_extract rfl rfl (g_end (h _ _ ⟨rfl, rfl⟩)), ?_⟩
  generalize ho : getM PgSY.cmp ys ⟨k, PgSY.zero.v⟩ = o
  refine ob_l rfl rfl fun Qz hz => o_alloc fun r => g_end (hz _ _ ⟨_, ob_fin, ?_⟩)
  clear hz Qz
  refine ob_l rfl rfl fun Qz hz => o_store (v := (o.getD PgSY.zero).val) rfl rfl rfl rfl rfl <| g_end (hz _ _ ⟨_, ob_fin, ?_⟩)
  clear hz Qz
  refine ob_q rfl rfl ⟨_, fun X Q h => o_assign (g_end (h _ _ ⟨rfl, rfl⟩)), ?_⟩
  refine ob_nil ?_
  refine G.norm r (o.getD PgSY.zero).val.cells rfl ?_
  repeat (first | refine g_endt ?_ | refine g_end ?_ | refine g_then ?_ | refine g_in_normal ?_ | refine g_then_ret ?_ | refine g_in_ret ?_ | refine g_then_exit ?_ | refine g_in_exit rfl ?_ | refine g_in_exit_ne (by decide) ?_ | refine g_seq ?_ | refine g_region ?_ | refine g_block ?_ | refine g_ret ?_ | refine g_return_n ?_ | refine g_exit ?_ | refine g_skip ?_)
  refine o_move ?_
  refine o_not rfl ?_
  refine g_endt ?_
  cases o with
  | none =>
    first | refine g_seq (g_cond_t rfl (rfl) ?_) | refine g_cond_t rfl (rfl) ?_
    repeat (first | refine g_endt ?_ | refine g_end ?_ | refine g_then ?_ | refine g_in_normal ?_ | refine g_then_ret ?_ | refine g_in_ret ?_ | refine g_then_exit ?_ | refine g_in_exit rfl ?_ | refine g_in_exit_ne (by decide) ?_ | refine g_seq ?_ | refine g_region ?_ | refine g_block ?_ | refine g_ret ?_ | refine g_return_n ?_ | refine g_exit ?_ | refine g_skip ?_)
    refine g_draw [7] [0,1,2,3,4,5,6,7,8] [cellsB m #[.pointer (some ⟨p, 0, none⟩)] 130, cellsB b k.val.cells 31] mixed rfl ?_
    refine ob_q rfl rfl ⟨_, fun X Q h => o_move (g_end (h _ _ ⟨rfl, rfl⟩)), ?_⟩
    refine ob_q rfl rfl ⟨_, fun X Q h => o_nil rfl (g_end (h _ _ ⟨rfl, rfl⟩)), ?_⟩
    refine ob_q rfl rfl ⟨_, fun X Q h => o_field rfl (g_end (h _ _ ⟨rfl, rfl⟩)), ?_⟩
    refine ob_q rfl rfl ⟨_, fun X Q h => o_load1 (v := .pointer (some ⟨p, 0, none⟩)) rfl rfl (g_end (h _ _ ⟨rfl, rfl⟩)), ?_⟩
    refine ob_q rfl rfl ⟨_, fun X Q h => o_loadN (v := k.val) rfl rfl rfl (g_end (h _ _ ⟨rfl, rfl⟩)), ?_⟩
    refine ob_q rfl rfl ⟨_, fun X Q h => o_move (g_end (h _ _ ⟨rfl, rfl⟩)), ?_⟩
    refine ob_q rfl rfl ⟨_, fun X Q h => o_build (PgSY.mk k v).val (fun w => by kernel_rfl) (g_end (h _ _ ⟨rfl, rfl⟩)), ?_⟩
    refine ob_l rfl rfl fun Qz hz => o_call (PutSY_spec p ys ⟨k, v⟩ hs (by omega)) rfl rfl ?_
    rintro _ M1 ⟨i, there, rfl, hM, hk⟩
    have ht : there = false := by
      cases there with
      | false => rfl
      | true =>
        obtain ⟨y, hy, _⟩ := hk.2.1 rfl
        have hg : getM PgSY.cmp ys ⟨k, PgSY.zero.v⟩ = some y := getM_some PgSY.lin hs hk hy
        rw [ho] at hg; cases hg
    subst ht
    have hM : M1 = [SetASY p (putLSY ys k v i false)] := hM
    subst hM
    refine g_end (hz _ _ ⟨_, ob_fin, ?_⟩)
    clear hz Qz
    refine ob_q rfl rfl ⟨_, fun X Q h => o_assign (g_end (h _ _ ⟨rfl, rfl⟩)), ?_⟩
    refine ob_nil ?_
    refine shutMSY m p (putLSY ys k v i false) ?_
    repeat (first | refine g_endt ?_ | refine g_end ?_ | refine g_then ?_ | refine g_in_normal ?_ | refine g_then_ret ?_ | refine g_in_ret ?_ | refine g_then_exit ?_ | refine g_in_exit rfl ?_ | refine g_in_exit_ne (by decide) ?_ | refine g_seq ?_ | refine g_region ?_ | refine g_block ?_ | refine g_ret ?_ | refine g_return_n ?_ | refine g_exit ?_ | refine g_skip ?_)
    exact ret1 rfl (resT rfl) ⟨i, false, rfl, rfl, hk⟩
  | some old =>
    first | refine g_seq (g_cond_f rfl (rfl) ?_) | refine g_cond_f rfl (rfl) ?_
    obtain ⟨i, hi, hy⟩ : ∃ i, FindR PgSY.cmp ys ⟨k, PgSY.zero.v⟩ i true ∧ ys[i]? = some old := by
      have h1 := List.find?_some ho
      have h2 := List.mem_of_find?_eq_some ho
      obtain ⟨j, hj⟩ := List.mem_iff_getElem?.1 h2
      exact ⟨j, ⟨by have := (List.getElem?_eq_some_iff.1 hj).1; omega, fun _ => ⟨old, hj, by simpa using h1⟩, fun e => by cases e⟩, hj⟩
    have hc : PgSY.cmp old ⟨k, PgSY.zero.v⟩ = 0 := by
      obtain ⟨a, ha, ea⟩ := hi.2.1 rfl
      rw [hy] at ha; cases ha; exact ea
    refine G.norm r old.val.cells rfl ?_
    have hself : FindR PgSY.cmp ys old i true := ⟨hi.1, fun _ => ⟨old, hy, PgSY.lin.refl old⟩, fun e => by cases e⟩
    repeat (first | refine g_endt ?_ | refine g_end ?_ | refine g_then ?_ | refine g_in_normal ?_ | refine g_then_ret ?_ | refine g_in_ret ?_ | refine g_then_exit ?_ | refine g_in_exit rfl ?_ | refine g_in_exit_ne (by decide) ?_ | refine g_seq ?_ | refine g_region ?_ | refine g_block ?_ | refine g_ret ?_ | refine g_return_n ?_ | refine g_exit ?_ | refine g_skip ?_)
    refine g_draw [5] [0,1,2,3,4,5] [cellsB m #[.pointer (some ⟨p, 0, none⟩)] 130, cellsB r old.val.cells 126] mixed rfl ?_
    refine ob_q rfl rfl ⟨_, fun X Q h => o_move (g_end (h _ _ ⟨rfl, rfl⟩)), ?_⟩
    refine ob_q rfl rfl ⟨_, fun X Q h => o_nil rfl (g_end (h _ _ ⟨rfl, rfl⟩)), ?_⟩
    refine ob_q rfl rfl ⟨_, fun X Q h => o_field rfl (g_end (h _ _ ⟨rfl, rfl⟩)), ?_⟩
    refine ob_q rfl rfl ⟨_, fun X Q h => o_load1 (v := .pointer (some ⟨p, 0, none⟩)) rfl rfl (g_end (h _ _ ⟨rfl, rfl⟩)), ?_⟩
    refine ob_q rfl rfl ⟨_, fun X Q h => o_loadN (v := old.val) rfl rfl rfl (g_end (h _ _ ⟨rfl, rfl⟩)), ?_⟩
    refine ob_l rfl rfl fun Qz hz => o_call (DropSY_spec p ys old hs (by omega)) rfl rfl ?_
    rintro _ M1 ⟨i1, there, rfl, hM, hk⟩
    have ht : there = true := by
      cases there with
      | true => rfl
      | false =>
        obtain ⟨h1, h2⟩ := hk.2.2 rfl
        have h3 := PgSY.lin.refl old
        by_cases hlt : i < i1
        · have := h1 i old hlt hy; omega
        · have := h2 i old (by omega) hy; omega
    subst ht
    have hii : i1 = i := FindR.one PgSY.lin hs hk hself
    subst hii
    have hM : M1 = [SetASY p (ys.eraseIdx i1)] := hM
    subst hM
    refine g_end (hz _ _ ⟨_, ob_fin, ?_⟩)
    clear hz Qz
    refine ob_nil ?_
    repeat (first | refine g_endt ?_ | refine g_end ?_ | refine g_then ?_ | refine g_in_normal ?_ | refine g_then_ret ?_ | refine g_in_ret ?_ | refine g_then_exit ?_ | refine g_in_exit rfl ?_ | refine g_in_exit_ne (by decide) ?_ | refine g_seq ?_ | refine g_region ?_ | refine g_block ?_ | refine g_ret ?_ | refine g_return_n ?_ | refine g_exit ?_ | refine g_skip ?_)
    refine g_draw [8] [0,1,2,3,4,5,6,7,8] [cellsB m #[.pointer (some ⟨p, 0, none⟩)] 130, cellsB r old.val.cells 126] mixed rfl ?_
    refine ob_q rfl rfl ⟨_, fun X Q h => o_move (g_end (h _ _ ⟨rfl, rfl⟩)), ?_⟩
    refine ob_q rfl rfl ⟨_, fun X Q h => o_nil rfl (g_end (h _ _ ⟨rfl, rfl⟩)), ?_⟩
    refine ob_q rfl rfl ⟨_, fun X Q h => o_field rfl (g_end (h _ _ ⟨rfl, rfl⟩)), ?_⟩
    refine ob_q rfl rfl ⟨_, fun X Q h => o_load1 (v := .pointer (some ⟨p, 0, none⟩)) rfl rfl (g_end (h _ _ ⟨rfl, rfl⟩)), ?_⟩
    refine ob_q rfl rfl ⟨_, fun X Q h => o_field rfl (g_end (h _ _ ⟨rfl, rfl⟩)), ?_⟩
    refine ob_q rfl rfl ⟨_, fun X Q h => o_loadN (v := old.k.val) rfl rfl rfl (g_end (h _ _ ⟨rfl, rfl⟩)), ?_⟩
    refine ob_q rfl rfl ⟨_, fun X Q h => o_move (g_end (h _ _ ⟨rfl, rfl⟩)), ?_⟩
    refine ob_q rfl rfl ⟨_, fun X Q h => o_build (PgSY.mk old.k v).val (fun w => by kernel_rfl) (g_end (h _ _ ⟨rfl, rfl⟩)), ?_⟩
    refine ob_l rfl rfl fun Qz hz => o_call (PutSY_spec p (ys.eraseIdx i1) ⟨old.k, v⟩ (Srt.erase hs i1) (by have : (ys.eraseIdx i1).length ≤ ys.length := List.length_eraseIdx_le _ _; omega)) rfl rfl ?_
    rintro _ M2 ⟨i2, there, rfl, hM, hk2⟩
    have hrep := replace PgSY.lin hs hy (x := ⟨old.k, v⟩) (PgSY.lin.refl old) hk2
    obtain ⟨rfl, hrep⟩ := hrep
    have hM : M2 = [SetASY p (putLSY ys k v i1 true)] := by
      rw [hM]
      show [SetASY p _] = [SetASY p (ys.set i1 ⟨(ys[i1]?.map (·.k)).getD k, v⟩)]
      rw [hy]
      show [SetASY p ((ys.eraseIdx i1).take i2 ++ ⟨old.k, v⟩ :: (ys.eraseIdx i1).drop i2)] = _
      rw [hrep]
      rfl
    subst hM
    refine g_end (hz _ _ ⟨_, ob_fin, ?_⟩)
    clear hz Qz
    refine ob_nil ?_
    repeat (first | refine g_endt ?_ | refine g_end ?_ | refine g_then ?_ | refine g_in_normal ?_ | refine g_then_ret ?_ | refine g_in_ret ?_ | refine g_then_exit ?_ | refine g_in_exit rfl ?_ | refine g_in_exit_ne (by decide) ?_ | refine g_seq ?_ | refine g_region ?_ | refine g_block ?_ | refine g_ret ?_ | refine g_return_n ?_ | refine g_exit ?_ | refine g_skip ?_)
    refine o_assign ?_
    first | refine g_endt ?_ | refine g_end ?_
    refine shutMSY m p (putLSY ys k v i1 true) ?_
    repeat (first | refine g_endt ?_ | refine g_end ?_ | refine g_then ?_ | refine g_in_normal ?_ | refine g_then_ret ?_ | refine g_in_ret ?_ | refine g_then_exit ?_ | refine g_in_exit rfl ?_ | refine g_in_exit_ne (by decide) ?_ | refine g_seq ?_ | refine g_region ?_ | refine g_block ?_ | refine g_ret ?_ | refine g_return_n ?_ | refine g_exit ?_ | refine g_skip ?_)
    exact ret1 rfl (resT rfl) ⟨i1, true, rfl, rfl, hi⟩
end Go.Proofs.Ytonjhakjnopbjaa
/- An ordered map's functions, for one type of keys and one of values: asked. -/
namespace Go.Proofs.Ytonjhakjnopbjaa
open Go Go.Sl
attribute [local irreducible] Code.wpIn roundPost bodyPostM runL Ret Meets Begin

theorem GetMapSY_spec (m : Nat) (ys : List PgSY) (k : SymD) (hs : Srt PgSY.cmp ys) (hl : ys.length < 1000000000) : Ctr Try.prog 74 [.pointer (some ⟨m, 0, none⟩), k.val] [MapASY m ys]
    (fun u M => u = .tuple #[PgSY.vval ((getM PgSY.cmp ys ⟨k, PgSY.zero.v⟩).getD PgSY.zero).v, .bool (getM PgSY.cmp ys ⟨k, PgSY.zero.v⟩).isSome] ∧ M = [MapASY m ys]) := by
  refine spec_of Try.func74 rfl Try.ntmps74 rfl fun w0 F => ?_
  repeat (first | refine g_endt ?_ | refine g_end ?_ | refine g_then ?_ | refine g_in_normal ?_ | refine g_then_ret ?_ | refine g_in_ret ?_ | refine g_then_exit ?_ | refine g_in_exit rfl ?_ | refine g_in_exit_ne (by decide) ?_ | refine g_seq ?_ | refine g_region ?_ | refine g_block ?_ | refine g_ret ?_ | refine g_return_n ?_ | refine g_exit ?_ | refine g_skip ?_)
  refine openMSY m ys fun p => ?_
  refine o_boxc k.val.cells rfl rfl fun b => ?_
  refine o_assign ?_
  refine o_assign ?_
  refine g_endt ?_
  repeat (first | refine g_endt ?_ | refine g_end ?_ | refine g_then ?_ | refine g_in_normal ?_ | refine g_then_ret ?_ | refine g_in_ret ?_ | refine g_then_exit ?_ | refine g_in_exit rfl ?_ | refine g_in_exit_ne (by decide) ?_ | refine g_seq ?_ | refine g_region ?_ | refine g_block ?_ | refine g_ret ?_ | refine g_return_n ?_ | refine g_exit ?_ | refine g_skip ?_)
  refine o_move ?_
  refine o_peql rfl ?_
  first | refine g_endt ?_ | refine g_end ?_
  first | refine g_seq (g_cond_f rfl (rfl) ?_) | refine g_cond_f rfl (rfl) ?_
  repeat (first | refine g_endt ?_ | refine g_end ?_ | refine g_then ?_ | refine g_in_normal ?_ | refine g_then_ret ?_ | refine g_in_ret ?_ | refine g_then_exit ?_ | refine g_in_exit rfl ?_ | refine g_in_exit_ne (by decide) ?_ | refine g_seq ?_ | refine g_region ?_ | refine g_block ?_ | refine g_ret ?_ | refine g_return_n ?_ | refine g_exit ?_ | refine g_skip ?_)
  refine g_draw [10, 11] [0,1,2,3,4,5,6,7,8,9,10,11,12] [SetASY p ys, cellsB m #[.pointer (some ⟨p, 0, none⟩)] 130, cellsB b k.val.cells 31] mixed rfl ?_
  refine ob_q rfl rfl ⟨_, fun X Q h => o_move (g_end (h _ _ ⟨rfl, rfl⟩)), ?_⟩
  refine ob_q rfl rfl ⟨_, fun X Q h => o_nil rfl (g_end (h _ _ ⟨rfl, rfl⟩)), ?_⟩
  refine ob_q rfl rfl ⟨_, fun X Q h => o_field rfl (g_end (h _ _ ⟨rfl, rfl⟩)), ?_⟩
  refine ob_q rfl rfl ⟨_, fun X Q h => o_load1 (v := .pointer (some ⟨p, 0, none⟩)) rfl rfl (g_end (h _ _ ⟨rfl, rfl⟩)), ?_⟩
  refine ob_q rfl rfl ⟨_, fun X Q h => o_loadN (v := k.val) rfl rfl rfl (g_end (h _ _ ⟨rfl, rfl⟩)), ?_⟩
  refine ob_q rfl rfl ⟨_, fun X Q h => o_call (atSY_spec k) rfl rfl <| by rintro _ _ ⟨rfl, rfl⟩; exact (g_end (h _ _ ⟨rfl, rfl⟩)), ?_⟩
  refine ob_q rfl rfl ⟨_, fun X Q h => o_call (GetMSY_spec p ys ⟨k, PgSY.zero.v⟩ hs hl) rfl rfl <| by rintro _ _ ⟨rfl, rfl⟩; exact (g_end (h _ _ ⟨rfl, rfl⟩)), ?_⟩
  refine ob_q rfl rfl ⟨_, fun X Q h => o_move (g_end (h _ _ ⟨rfl, rfl⟩)), ?_⟩
  refine ob_q rfl rfl ⟨_, fun X Q h => o_extract rfl rfl (g_end (h _ _ ⟨rfl, rfl⟩)), ?_⟩
  refine ob_q rfl rfl ⟨_, fun X Q h => o_extract rfl rfl (g_end (h _ _ ⟨rfl, rfl⟩)), ?_⟩
  generalize ho : getM PgSY.cmp ys ⟨k, PgSY.zero.v⟩ = o
  refine ob_l rfl rfl fun Qz hz => o_alloc fun r => g_end (hz _ _ ⟨_, ob_fin, ?_⟩)
  clear hz Qz
  refine ob_l rfl rfl fun Qz hz => o_store (v := (o.getD PgSY.zero).val) rfl rfl rfl rfl rfl <| g_end (hz _ _ ⟨_, ob_fin, ?_⟩)
  clear hz Qz
  refine ob_q rfl rfl ⟨_, fun X Q h => o_assign (g_end (h _ _ ⟨rfl, rfl⟩)), ?_⟩
  refine ob_nil ?_
  refine G.norm r (o.getD PgSY.zero).val.cells rfl ?_
  generalize o.getD PgSY.zero = y
  repeat (first | refine g_endt ?_ | refine g_end ?_ | refine g_then ?_ | refine g_in_normal ?_ | refine g_then_ret ?_ | refine g_in_ret ?_ | refine g_then_exit ?_ | refine g_in_exit rfl ?_ | refine g_in_exit_ne (by decide) ?_ | refine g_seq ?_ | refine g_region ?_ | refine g_block ?_ | refine g_ret ?_ | refine g_return_n ?_ | refine g_exit ?_ | refine g_skip ?_)
  refine o_field rfl ?_
  refine o_load1 (v := PgSY.vval y.v) rfl rfl ?_
  refine o_move ?_
  refine o_assign ?_
  refine o_assign ?_
  refine g_endt ?_
  refine shutMSY m p ys ?_
  repeat (first | refine g_endt ?_ | refine g_end ?_ | refine g_then ?_ | refine g_in_normal ?_ | refine g_then_ret ?_ | refine g_in_ret ?_ | refine g_then_exit ?_ | refine g_in_exit rfl ?_ | refine g_in_exit_ne (by decide) ?_ | refine g_seq ?_ | refine g_region ?_ | refine g_block ?_ | refine g_ret ?_ | refine g_return_n ?_ | refine g_exit ?_ | refine g_skip ?_)
  exact ret2 (K := [MapASY m ys]) rfl (resT rfl) (resT rfl) ⟨rfl, rfl⟩
end Go.Proofs.Ytonjhakjnopbjaa
/- An ordered map's functions, for one type of keys and one of values: a key more that was not there. -/
namespace Go.Proofs.Ytonjhakjnopbjaa
open Go Go.Sl
attribute [local irreducible] Code.wpIn roundPost bodyPostM runL Ret Meets Begin

theorem PutNMSY_spec (m : Nat) (ys : List PgSY) (k : SymD) (v : Option Nat) (hs : Srt PgSY.cmp ys) (hl : ys.length < 999999999) (hn : hasC PgSY.cmp ys ⟨k, v⟩ = false) : Ctr Try.prog 87 [.pointer (some ⟨m, 0, none⟩), k.val, PgSY.vval v] [MapASY m ys]
    (fun u M => u = .bool true ∧ M = [MapASY m (insC PgSY.cmp ys ⟨k, v⟩)]) := (PutMSY_spec m ys k v hs hl).mono fun u M ⟨i, there, h1, h2, h3⟩ => by
  have e := hasC_of h3
  rw [hn] at e
  subst e
  have h4 := insC_of PgSY.lin hs h3
  rw [h1, h2, ← h4]
  exact ⟨rfl, rfl⟩
theorem GetNMSY_spec (m : Nat) (ys : List PgSY) (k : SymD) (hs : Srt PgSY.cmp ys) (hl : ys.length < 1000000000) {o : Option PgSY} (ho : getM PgSY.cmp ys ⟨k, PgSY.zero.v⟩ = o) : Ctr Try.prog 74 [.pointer (some ⟨m, 0, none⟩), k.val] [MapASY m ys]
    (fun u M => u = .tuple #[PgSY.vval (o.getD PgSY.zero).v, .bool o.isSome] ∧ M = [MapASY m ys]) := ho ▸ GetMapSY_spec m ys k hs hl
end Go.Proofs.Ytonjhakjnopbjaa
/- Members of an ordered set. -/
namespace Go.Proofs.Ytonjhakjnopbjaa
open Go Go.Sl

def SymD.enc (p : SymD) : List Value := p.val.cells.toList
def SymD.enc' (p : SymD) : List Value := [p.val]
instance : EncLen SymD.enc 3 := ⟨fun _ => rfl, fun e u h => by simp [SymD.enc, SymD.val, Value.cells] at h; rcases h with h | h | h <;> subst h <;> rfl⟩
theorem SymD.lin : LinCmp SymD.cmp := linSym
theorem SymD.cmp_spec (a b : SymD) : Ctr Try.prog 117 [a.val, b.val] [] (fun v M => v = .int .i64 (a.cmp b) ∧ M = []) := CompareSym_spec a b
end Go.Proofs.Ytonjhakjnopbjaa
/- An ordered set's functions, for one type of members: find, own. -/
namespace Go.Proofs.Ytonjhakjnopbjaa
open Go Go.Sl
attribute [local irreducible] Code.wpIn roundPost bodyPostM runL Ret Meets Begin

abbrev SetASS (p : Nat) (ys : List SymD) : SProp := SetP 124 31 SymD.enc 3 p ys
section
variable {w0 : World} {A : SProp} {L M : List SProp} {Φ : World → Prop}
theorem openSS (p : Nat) (ys : List SymD) [tk : Take1 L (SetASS p ys) M] (h : ∀ S c b, G w0 A (cellsB p #[.slice S ys.length c, .bool b] 124 :: row 31 SymD.enc 3 b S c ys :: M) Φ) : G w0 A L Φ := SetP.open h
theorem shutSS (p : Nat) (ys : List SymD) (S : Option Addr) (c : Nat) (b : Bool) {len : Nat} (hl : ys.length = len) [tk : Take L [cellsB p #[.slice S len c, .bool b] 124, row 31 SymD.enc 3 b S c ys] M] (h : G w0 A (SetASS p ys :: M) Φ) : G w0 A L Φ := SetP.shut (S := S) (c := c) (b := b) hl h
theorem shutFSS (p : Nat) (ys : List SymD) (S : Option Addr) (c : Nat) {len : Nat} (hl : ys.length = len) [tk : Take L [cellsB p #[.slice S len c, .bool false] 124, osl 31 SymD.enc 3 S c ys] M] (h : G w0 A (SetASS p ys :: M) Φ) : G w0 A L Φ := SetP.shut (S := S) (c := c) (b := false) hl (tk := tk) h
theorem shutTSS (p : Nat) (ys : List SymD) (S : Option Addr) (c : Nat) {len : Nat} (hl : ys.length = len) [tk : Take L [cellsB p #[.slice S len c, .bool true] 124, psl SymD.enc 3 S ys] M] (h : G w0 A (SetASS p ys :: M) Φ) : G w0 A L Φ := SetP.shut (S := S) (c := c) (b := true) hl (tk := tk) h
end
theorem findSS_spec (p : Nat) (ys : List SymD) (x : SymD) (hs : Srt SymD.cmp ys) (hl : ys.length ≤ 1000000000) : Ctr Try.prog 92 [.pointer (some ⟨p, 0, none⟩), x.val] [SetASS p ys]
    (fun v M => ∃ (k : Nat) (there : Bool), v = .tuple #[.int .i64 (k : Int), .bool there] ∧ M = [SetASS p ys] ∧ FindR SymD.cmp ys x k there) := by
  refine spec_of Try.func92 rfl Try.ntmps92 rfl fun w0 F => ?_
  repeat (first | refine g_endt ?_ | refine g_end ?_ | refine g_then ?_ | refine g_in_normal ?_ | refine g_then_ret ?_ | refine g_in_ret ?_ | refine g_then_exit ?_ | refine g_in_exit rfl ?_ | refine g_in_exit_ne (by decide) ?_ | refine g_seq ?_ | refine g_region ?_ | refine g_block ?_ | refine g_ret ?_ | refine g_return_n ?_ | refine g_exit ?_ | refine g_skip ?_)
  refine openSS p ys fun S c b => ?_
  refine o_boxc x.val.cells rfl rfl fun q => ?_
  refine o_assign ?_
  refine o_assign ?_
  first | refine g_endt ?_ | refine g_end ?_
  repeat (first | refine g_endt ?_ | refine g_end ?_ | refine g_then ?_ | refine g_in_normal ?_ | refine g_then_ret ?_ | refine g_in_ret ?_ | refine g_then_exit ?_ | refine g_in_exit rfl ?_ | refine g_in_exit_ne (by decide) ?_ | refine g_seq ?_ | refine g_region ?_ | refine g_block ?_ | refine g_ret ?_ | refine g_return_n ?_ | refine g_exit ?_ | refine g_skip ?_)
  refine g_draw [] [0,1,2,3,4,5,6] [cellsB p #[.slice S ys.length c, .bool b] 124] mixed rfl ?_
  refine ob_q rfl rfl ⟨_, fun X Q h => o_move (g_end (h _ _ ⟨rfl, rfl⟩)), ?_⟩
  refine ob_q rfl rfl ⟨_, fun X Q h => o_nil rfl (g_end (h _ _ ⟨rfl, rfl⟩)), ?_⟩
  refine ob_q rfl rfl ⟨_, fun X Q h => o_field rfl (g_end (h _ _ ⟨rfl, rfl⟩)), ?_⟩
  refine ob_q rfl rfl ⟨_, fun X Q h => o_load1 rfl rfl (g_end (h _ _ ⟨rfl, rfl⟩)), ?_⟩
  refine ob_q rfl rfl ⟨_, fun X Q h => o_len rfl rfl (g_end (h _ _ ⟨rfl, rfl⟩)), ?_⟩
  refine ob_q rfl rfl ⟨_, fun X Q h => o_assign (g_end (h _ _ ⟨rfl, rfl⟩)), ?_⟩
  refine ob_q rfl rfl ⟨_, fun X Q h => o_assign (g_end (h _ _ ⟨rfl, rfl⟩)), ?_⟩
  refine ob_nil ?_
  repeat (first | refine g_endt ?_ | refine g_end ?_ | refine g_then ?_ | refine g_in_normal ?_ | refine g_then_ret ?_ | refine g_in_ret ?_ | refine g_then_exit ?_ | refine g_in_exit rfl ?_ | refine g_in_exit_ne (by decide) ?_ | refine g_seq ?_ | refine g_region ?_ | refine g_block ?_ | refine g_ret ?_ | refine g_return_n ?_ | refine g_exit ?_ | refine g_skip ?_)
  refine g_loop (σ := {s : Nat × Nat // s.1 ≤ s.2 ∧ s.2 ≤ ys.length ∧ (∀ (j : Nat) (y : SymD), j < s.1 → ys[j]? = some y → SymD.cmp y x < 0) ∧ ∀ (j : Nat) (y : SymD), s.2 ≤ j → ys[j]? = some y → 0 < SymD.cmp y x})
    (S := fun s => [(0, .pointer (some ⟨p, 0, none⟩)), (3, .pointer (some ⟨q, 0, none⟩)), (6, .int .i64 (s.1.1 : Int)), (7, .int .i64 (s.1.2 : Int))])
    (H := fun _ => [cellsB p #[.slice S ys.length c, .bool b] 124, row 31 SymD.enc 3 b S c ys, cellsB q x.val.cells 31]) (μ := fun s => s.1.2 - s.1.1)
    (s0 := ⟨(0, ys.length), Nat.zero_le _, Nat.le_refl _, fun j y h => absurd h (Nat.not_lt_zero j), fun j y h e => by rw [List.getElem?_eq_none h] at e; cases e⟩) (Sat.mem ⟨rfl, rfl, rfl, rfl, trivial⟩) ?_
  rintro ⟨⟨lo, hi⟩, h1, h2, h3, h4⟩ ρ'
  dsimp only at h1 h2 h3 h4 ⊢
  repeat (first | refine g_endt ?_ | refine g_end ?_ | refine g_then ?_ | refine g_in_normal ?_ | refine g_then_ret ?_ | refine g_in_ret ?_ | refine g_then_exit ?_ | refine g_in_exit rfl ?_ | refine g_in_exit_ne (by decide) ?_ | refine g_seq ?_ | refine g_region ?_ | refine g_block ?_ | refine g_ret ?_ | refine g_return_n ?_ | refine g_exit ?_ | refine g_skip ?_)
  refine o_move ?_
  refine o_move ?_
  refine o_lss rfl rfl ?_
  first | refine g_endt ?_ | refine g_end ?_
  by_cases h : lo < hi
  · first | refine g_seq (g_cond_t rfl (by simpa using h) ?_) | refine g_cond_t rfl (by simpa using h) ?_
    repeat (first | refine g_endt ?_ | refine g_end ?_ | refine g_then ?_ | refine g_in_normal ?_ | refine g_then_ret ?_ | refine g_in_ret ?_ | refine g_then_exit ?_ | refine g_in_exit rfl ?_ | refine g_in_exit_ne (by decide) ?_ | refine g_seq ?_ | refine g_region ?_ | refine g_block ?_ | refine g_ret ?_ | refine g_return_n ?_ | refine g_exit ?_ | refine g_skip ?_)
    refine o_move ?_
    refine o_move ?_
    refine o_move ?_
    refine o_sub (c := ((hi - lo : Nat) : Int)) rfl rfl (by omega) (by omega) (by omega) ?_
    refine o_quo (c := (((hi - lo) / 2 : Nat) : Int)) rfl rfl (by decide) (by rw [Int.tdiv_eq_ediv_of_nonneg (by omega)]; omega) (by omega) (by omega) ?_
    refine o_add (c := ((lo + (hi - lo) / 2 : Nat) : Int)) rfl rfl (by omega) (by omega) (by omega) ?_
    generalize hmid : lo + (hi - lo) / 2 = mid
    have hm1 : lo ≤ mid := by omega
    have hm2 : mid < hi := by omega
    have hm3 : mid < ys.length := by omega
    obtain ⟨y, hy⟩ : ∃ y, ys[mid]? = some y := ⟨_, List.getElem?_eq_getElem hm3⟩
    refine o_assign ?_
    refine g_endt ?_
    repeat (first | refine g_endt ?_ | refine g_end ?_ | refine g_then ?_ | refine g_in_normal ?_ | refine g_then_ret ?_ | refine g_in_ret ?_ | refine g_then_exit ?_ | refine g_in_exit rfl ?_ | refine g_in_exit_ne (by decide) ?_ | refine g_seq ?_ | refine g_region ?_ | refine g_block ?_ | refine g_ret ?_ | refine g_return_n ?_ | refine g_exit ?_ | refine g_skip ?_)
    refine g_draw [] [0,1,2,3,4,5,6,7,8,9,10] [cellsB p #[.slice S ys.length c, .bool b] 124, row 31 SymD.enc 3 b S c ys, cellsB q x.val.cells 31] mixed rfl ?_
    refine ob_q rfl rfl ⟨_, fun X Q h => o_move (g_end (h _ _ ⟨rfl, rfl⟩)), ?_⟩
    refine ob_q rfl rfl ⟨_, fun X Q h => o_nil rfl (g_end (h _ _ ⟨rfl, rfl⟩)), ?_⟩
    refine ob_q rfl rfl ⟨_, fun X Q h => o_field rfl (g_end (h _ _ ⟨rfl, rfl⟩)), ?_⟩
    refine ob_q rfl rfl ⟨_, fun X Q h => o_load1 (v := .slice S ys.length c) rfl rfl (g_end (h _ _ ⟨rfl, rfl⟩)), ?_⟩
    refine ob_q rfl rfl ⟨_, fun X Q h => o_move (g_end (h _ _ ⟨rfl, rfl⟩)), ?_⟩
    refine ob_q rfl rfl ⟨_, fun X Q h => o_indexR (ys := ys) (i := mid) rfl rfl rfl hm3 rfl rfl (g_end (h _ _ ⟨rfl, rfl⟩)), ?_⟩
    refine ob_q rfl rfl ⟨_, fun X Q h => o_loadE (ys := ys) rfl rfl hy (g_end (h _ _ ⟨rfl, rfl⟩)), ?_⟩
    refine ob_q rfl rfl ⟨_, fun X Q h => o_iface (u := y.val) rfl (fun w => by kernel_rfl) (g_end (h _ _ ⟨rfl, rfl⟩)), ?_⟩
    refine ob_q rfl rfl ⟨_, fun X Q h => o_loadN (v := x.val) rfl rfl rfl (g_end (h _ _ ⟨rfl, rfl⟩)), ?_⟩
    refine ob_q rfl rfl ⟨_, fun X Q h => o_invoke (SymD.cmp_spec y x) rfl rfl (fun w => by kernel_rfl) <| by rintro _ _ ⟨rfl, rfl⟩; exact (g_end (h _ _ ⟨rfl, rfl⟩)), ?_⟩
    refine ob_q rfl rfl ⟨_, fun X Q h => o_assign (g_end (h _ _ ⟨rfl, rfl⟩)), ?_⟩
    refine ob_nil ?_
    repeat (first | refine g_endt ?_ | refine g_end ?_ | refine g_then ?_ | refine g_in_normal ?_ | refine g_then_ret ?_ | refine g_in_ret ?_ | refine g_then_exit ?_ | refine g_in_exit rfl ?_ | refine g_in_exit_ne (by decide) ?_ | refine g_seq ?_ | refine g_region ?_ | refine g_block ?_ | refine g_ret ?_ | refine g_return_n ?_ | refine g_exit ?_ | refine g_skip ?_)
    refine o_move ?_
    refine o_eql rfl rfl ?_
    first | refine g_endt ?_ | refine g_end ?_
    by_cases hc : SymD.cmp y x = 0
    · first | refine g_seq (g_cond_t rfl (by simpa using hc) ?_) | refine g_cond_t rfl (by simpa using hc) ?_
      repeat (first | refine g_endt ?_ | refine g_end ?_ | refine g_then ?_ | refine g_in_normal ?_ | refine g_then_ret ?_ | refine g_in_ret ?_ | refine g_then_exit ?_ | refine g_in_exit rfl ?_ | refine g_in_exit_ne (by decide) ?_ | refine g_seq ?_ | refine g_region ?_ | refine g_block ?_ | refine g_ret ?_ | refine g_return_n ?_ | refine g_exit ?_ | refine g_skip ?_)
      refine o_move ?_
      refine o_assign ?_
      refine o_assign ?_
      first | refine g_endt ?_ | refine g_end ?_
      refine shutSS p ys S c b rfl ?_
      repeat (first | refine g_endt ?_ | refine g_end ?_ | refine g_then ?_ | refine g_in_normal ?_ | refine g_then_ret ?_ | refine g_in_ret ?_ | refine g_then_exit ?_ | refine g_in_exit rfl ?_ | refine g_in_exit_ne (by decide) ?_ | refine g_seq ?_ | refine g_region ?_ | refine g_block ?_ | refine g_ret ?_ | refine g_return_n ?_ | refine g_exit ?_ | refine g_skip ?_)
      exact ret2 rfl (resT rfl) (resT rfl) ⟨mid, true, rfl, rfl, by omega, fun _ => ⟨y, hy, hc⟩, fun e => by cases e⟩
    · first | refine g_seq (g_cond_f rfl (by simpa using hc) ?_) | refine g_cond_f rfl (by simpa using hc) ?_
      repeat (first | refine g_endt ?_ | refine g_end ?_ | refine g_then ?_ | refine g_in_normal ?_ | refine g_then_ret ?_ | refine g_in_ret ?_ | refine g_then_exit ?_ | refine g_in_exit rfl ?_ | refine g_in_exit_ne (by decide) ?_ | refine g_seq ?_ | refine g_region ?_ | refine g_block ?_ | refine g_ret ?_ | refine g_return_n ?_ | refine g_exit ?_ | refine g_skip ?_)
      refine o_move ?_
      refine o_lss rfl rfl ?_
      first | refine g_endt ?_ | refine g_end ?_
      by_cases hn : SymD.cmp y x < 0
      · first | refine g_seq (g_cond_t rfl (by simpa using hn) ?_) | refine g_cond_t rfl (by simpa using hn) ?_
        repeat (first | refine g_endt ?_ | refine g_end ?_ | refine g_then ?_ | refine g_in_normal ?_ | refine g_then_ret ?_ | refine g_in_ret ?_ | refine g_then_exit ?_ | refine g_in_exit rfl ?_ | refine g_in_exit_ne (by decide) ?_ | refine g_seq ?_ | refine g_region ?_ | refine g_block ?_ | refine g_ret ?_ | refine g_return_n ?_ | refine g_exit ?_ | refine g_skip ?_)
        refine o_move ?_
        refine o_add (c := ((mid + 1 : Nat) : Int)) rfl rfl (by omega) (by omega) (by omega) ?_
        refine o_assign ?_
        first | refine g_endt ?_ | refine g_end ?_
        repeat (first | refine g_endt ?_ | refine g_end ?_ | refine g_then ?_ | refine g_in_normal ?_ | refine g_then_ret ?_ | refine g_in_ret ?_ | refine g_then_exit ?_ | refine g_in_exit rfl ?_ | refine g_in_exit_ne (by decide) ?_ | refine g_seq ?_ | refine g_region ?_ | refine g_block ?_ | refine g_ret ?_ | refine g_return_n ?_ | refine g_exit ?_ | refine g_skip ?_)
        refine g_meets ⟨(mid + 1, hi), by show mid + 1 ≤ hi; omega, h2, fun j y' hj hy' => ?_, h4⟩ (by show hi - (mid + 1) < hi - lo; omega) (Sat.mem ⟨rfl, rfl, rfl, rfl, trivial⟩)
        by_cases e : j = mid
        · subst e; rw [hy] at hy'; cases hy'; exact hn
        · exact SymD.lin.trans _ _ _ (hs j mid y' y (by dsimp only at hj; omega) hy' hy) hn
      · first | refine g_seq (g_cond_f rfl (by simpa using hn) ?_) | refine g_cond_f rfl (by simpa using hn) ?_
        repeat (first | refine g_endt ?_ | refine g_end ?_ | refine g_then ?_ | refine g_in_normal ?_ | refine g_then_ret ?_ | refine g_in_ret ?_ | refine g_then_exit ?_ | refine g_in_exit rfl ?_ | refine g_in_exit_ne (by decide) ?_ | refine g_seq ?_ | refine g_region ?_ | refine g_block ?_ | refine g_ret ?_ | refine g_return_n ?_ | refine g_exit ?_ | refine g_skip ?_)
        refine o_move ?_
        refine o_assign ?_
        first | refine g_endt ?_ | refine g_end ?_
        repeat (first | refine g_endt ?_ | refine g_end ?_ | refine g_then ?_ | refine g_in_normal ?_ | refine g_then_ret ?_ | refine g_in_ret ?_ | refine g_then_exit ?_ | refine g_in_exit rfl ?_ | refine g_in_exit_ne (by decide) ?_ | refine g_seq ?_ | refine g_region ?_ | refine g_block ?_ | refine g_ret ?_ | refine g_return_n ?_ | refine g_exit ?_ | refine g_skip ?_)
        refine g_meets ⟨(lo, mid), hm1, by show mid ≤ ys.length; omega, h3, fun j y' hj hy' => ?_⟩ (by show mid - lo < hi - lo; omega) (Sat.mem ⟨rfl, rfl, rfl, rfl, trivial⟩)
        by_cases e : j = mid
        · subst e; rw [hy] at hy'; cases hy'; omega
        · have h5 := hs mid j y y' (by dsimp only at hj; omega) hy hy'
          have h6 := SymD.lin.swap x y
          have h7 := SymD.lin.trans x y y' (by omega) h5
          have h8 := SymD.lin.swap x y'
          omega
  · first | refine g_seq (g_cond_f rfl (by simpa using h) ?_) | refine g_cond_f rfl (by simpa using h) ?_
    have e : lo = hi := by omega
    subst e
    repeat (first | refine g_endt ?_ | refine g_end ?_ | refine g_then ?_ | refine g_in_normal ?_ | refine g_then_ret ?_ | refine g_in_ret ?_ | refine g_then_exit ?_ | refine g_in_exit rfl ?_ | refine g_in_exit_ne (by decide) ?_ | refine g_seq ?_ | refine g_region ?_ | refine g_block ?_ | refine g_ret ?_ | refine g_return_n ?_ | refine g_exit ?_ | refine g_skip ?_)
    refine o_move ?_
    refine o_assign ?_
    refine o_assign ?_
    first | refine g_endt ?_ | refine g_end ?_
    refine shutSS p ys S c b rfl ?_
    repeat (first | refine g_endt ?_ | refine g_end ?_ | refine g_then ?_ | refine g_in_normal ?_ | refine g_then_ret ?_ | refine g_in_ret ?_ | refine g_then_exit ?_ | refine g_in_exit rfl ?_ | refine g_in_exit_ne (by decide) ?_ | refine g_seq ?_ | refine g_region ?_ | refine g_block ?_ | refine g_ret ?_ | refine g_return_n ?_ | refine g_exit ?_ | refine g_skip ?_)
    exact ret2 rfl (resT rfl) (resT rfl) ⟨lo, false, rfl, rfl, h2, fun e => (by cases e), fun _ => ⟨h3, h4⟩⟩
end Go.Proofs.Ytonjhakjnopbjaa
/- An ordered set's functions, for one type of members: own, Put. -/
namespace Go.Proofs.Ytonjhakjnopbjaa
open Go Go.Sl
attribute [local irreducible] Code.wpIn roundPost bodyPostM runL Ret Meets Begin

theorem ownSS_spec (p : Nat) (ys : List SymD) (hl : ys.length ≤ 1000000000) : Ctr Try.prog 93 [.pointer (some ⟨p, 0, none⟩)] [SetASS p ys]
    (fun _ M => ∃ (S : Option Addr) (c : Nat), M = [cellsB p #[.slice S ys.length c, .bool false] 124, osl 31 SymD.enc 3 S c ys]) := by
  refine spec_of Try.func93 rfl Try.ntmps93 rfl fun w0 F => ?_
  repeat (first | refine g_endt ?_ | refine g_end ?_ | refine g_then ?_ | refine g_in_normal ?_ | refine g_then_ret ?_ | refine g_in_ret ?_ | refine g_then_exit ?_ | refine g_in_exit rfl ?_ | refine g_in_exit_ne (by decide) ?_ | refine g_seq ?_ | refine g_region ?_ | refine g_block ?_ | refine g_ret ?_ | refine g_return_n ?_ | refine g_exit ?_ | refine g_skip ?_)
  refine openSS p ys fun S c b => ?_
  refine o_move ?_
  refine o_nil rfl ?_
  refine o_field rfl ?_
  refine o_load1 (v := .bool b) rfl rfl ?_
  refine g_endt ?_
  cases b
  · first | refine g_seq (g_cond_f rfl (rfl) ?_) | refine g_cond_f rfl (rfl) ?_
    change G _ _ [cellsB p #[.slice S ys.length c, .bool false] 124, osl 31 SymD.enc 3 S c ys] _
    repeat (first | refine g_endt ?_ | refine g_end ?_ | refine g_then ?_ | refine g_in_normal ?_ | refine g_then_ret ?_ | refine g_in_ret ?_ | refine g_then_exit ?_ | refine g_in_exit rfl ?_ | refine g_in_exit_ne (by decide) ?_ | refine g_seq ?_ | refine g_region ?_ | refine g_block ?_ | refine g_ret ?_ | refine g_return_n ?_ | refine g_exit ?_ | refine g_skip ?_)
    exact ret0 rfl ⟨S, c, rfl⟩
  · first | refine g_seq (g_cond_t rfl (rfl) ?_) | refine g_cond_t rfl (rfl) ?_
    change G _ _ [cellsB p #[.slice S ys.length c, .bool true] 124, psl SymD.enc 3 S ys] _
    repeat (first | refine g_endt ?_ | refine g_end ?_ | refine g_then ?_ | refine g_in_normal ?_ | refine g_then_ret ?_ | refine g_in_ret ?_ | refine g_then_exit ?_ | refine g_in_exit rfl ?_ | refine g_in_exit_ne (by decide) ?_ | refine g_seq ?_ | refine g_region ?_ | refine g_block ?_ | refine g_ret ?_ | refine g_return_n ?_ | refine g_exit ?_ | refine g_skip ?_)
    refine g_draw [7, 12, 15] [0,1,2,3,4,5,6,8,9,10,11,7,12,13,14,15] [cellsB p #[.slice S ys.length c, .bool true] 124, psl SymD.enc 3 S ys] mixed rfl ?_
    refine ob_q rfl rfl ⟨_, fun X Q h => o_move (g_end (h _ _ ⟨rfl, rfl⟩)), ?_⟩
    refine ob_q rfl rfl ⟨_, fun X Q h => o_move (g_end (h _ _ ⟨rfl, rfl⟩)), ?_⟩
    refine ob_q rfl rfl ⟨_, fun X Q h => o_nil rfl (g_end (h _ _ ⟨rfl, rfl⟩)), ?_⟩
    refine ob_q rfl rfl ⟨_, fun X Q h => o_field rfl (g_end (h _ _ ⟨rfl, rfl⟩)), ?_⟩
    refine ob_q rfl rfl ⟨_, fun X Q h => o_load1 (v := .slice S ys.length c) rfl rfl (g_end (h _ _ ⟨rfl, rfl⟩)), ?_⟩
    refine ob_q rfl rfl ⟨_, fun X Q h => o_len rfl rfl (g_end (h _ _ ⟨rfl, rfl⟩)), ?_⟩
    refine ob_q rfl rfl ⟨_, fun X Q h => o_add (c := ((ys.length + 1 : Nat) : Int)) rfl rfl (by omega) (by omega) (by omega) (g_end (h _ _ ⟨rfl, rfl⟩)), ?_⟩
    refine ob_q rfl rfl ⟨_, fun X Q h => o_move (g_end (h _ _ ⟨rfl, rfl⟩)), ?_⟩
    refine ob_q rfl rfl ⟨_, fun X Q h => o_nil rfl (g_end (h _ _ ⟨rfl, rfl⟩)), ?_⟩
    refine ob_q rfl rfl ⟨_, fun X Q h => o_field rfl (g_end (h _ _ ⟨rfl, rfl⟩)), ?_⟩
    refine ob_q rfl rfl ⟨_, fun X Q h => o_load1 (v := .slice S ys.length c) rfl rfl (g_end (h _ _ ⟨rfl, rfl⟩)), ?_⟩
    refine ob_l rfl rfl fun Qz hz => o_make0 (α := SymD) (enc := SymD.enc) rfl rfl rfl (by omega) (by simp [maxLen]; omega) fun T => g_end (hz _ _ ⟨_, ob_fin, ?_⟩)
    clear hz Qz
    refine ob_l rfl rfl fun Qz hz => o_append0 (ys := ys) rfl rfl rfl rfl rfl (by simp [maxLen]; omega) (by omega) fun U d => g_end (hz _ _ ⟨_, ob_fin, ?_⟩)
    clear hz Qz
    refine ob_q rfl rfl ⟨_, fun X Q h => o_nil rfl (g_end (h _ _ ⟨rfl, rfl⟩)), ?_⟩
    refine ob_q rfl rfl ⟨_, fun X Q h => o_field rfl (g_end (h _ _ ⟨rfl, rfl⟩)), ?_⟩
    refine ob_s ([]) rfl rfl rfl fun Qz hz => o_store (v := .slice U ys.length d) rfl rfl rfl rfl rfl <| g_end (hz _ _ ⟨_, ob_fin, ?_⟩)
    clear hz Qz
    refine ob_nil ?_
    repeat (first | refine g_endt ?_ | refine g_end ?_ | refine g_then ?_ | refine g_in_normal ?_ | refine g_then_ret ?_ | refine g_in_ret ?_ | refine g_then_exit ?_ | refine g_in_exit rfl ?_ | refine g_in_exit_ne (by decide) ?_ | refine g_seq ?_ | refine g_region ?_ | refine g_block ?_ | refine g_ret ?_ | refine g_return_n ?_ | refine g_exit ?_ | refine g_skip ?_)
    refine o_move ?_
    refine o_nil rfl ?_
    refine o_field rfl ?_
    refine o_store rfl rfl rfl rfl rfl ?_
    first | refine g_endt ?_ | refine g_end ?_
    repeat (first | refine g_endt ?_ | refine g_end ?_ | refine g_then ?_ | refine g_in_normal ?_ | refine g_then_ret ?_ | refine g_in_ret ?_ | refine g_then_exit ?_ | refine g_in_exit rfl ?_ | refine g_in_exit_ne (by decide) ?_ | refine g_seq ?_ | refine g_region ?_ | refine g_block ?_ | refine g_ret ?_ | refine g_return_n ?_ | refine g_exit ?_ | refine g_skip ?_)
    refine G.norm p #[.slice U ys.length d, .bool false] rfl ?_
    exact ret0 rfl ⟨U, d, rfl⟩
end Go.Proofs.Ytonjhakjnopbjaa
/- An ordered set's functions, for one type of members: Put. -/
namespace Go.Proofs.Ytonjhakjnopbjaa
open Go Go.Sl
attribute [local irreducible] Code.wpIn roundPost bodyPostM runL Ret Meets Begin

theorem take_snocPSS {α : Type} (ys : List α) (i : Nat) (y : α) (h : ys[i]? = some y) : ys.take (i + 1) = ys.take i ++ [y] := by rw [List.take_add_one, h]; rfl
theorem gapSS (ys : List SymD) (i : Nat) (w y : SymD) (hi : i < ys.length) (hy : ys[i]? = some y) : (ys.take (i + 1) ++ w :: ys.drop (i + 1)).set (i + 1) y = ys.take i ++ y :: ys.drop i := by
  have h1 : (ys.take (i + 1)).length = i + 1 := by simp; omega
  have h2 : ys.drop i = y :: ys.drop (i + 1) := by
    rw [List.drop_eq_getElem_cons hi]
    rw [List.getElem?_eq_getElem hi] at hy
    cases hy
    rfl
  rw [List.set_append_right _ _ (by omega), h1, Nat.sub_self, List.set_cons_zero, take_snocPSS ys i y hy, h2]
  simp
theorem PutSS_spec (p : Nat) (ys : List SymD) (x : SymD) (hs : Srt SymD.cmp ys) (hl : ys.length < 1000000000) : Ctr Try.prog 76 [.pointer (some ⟨p, 0, none⟩), x.val] [SetASS p ys]
    (fun v M => ∃ (k : Nat) (there : Bool), v = .bool !there ∧ M = [SetASS p (cond there ys (ys.take k ++ x :: ys.drop k))] ∧ FindR SymD.cmp ys x k there) := by
  refine spec_of Try.func76 rfl Try.ntmps76 rfl fun w0 F => ?_
  repeat (first | refine g_endt ?_ | refine g_end ?_ | refine g_then ?_ | refine g_in_normal ?_ | refine g_then_ret ?_ | refine g_in_ret ?_ | refine g_then_exit ?_ | refine g_in_exit rfl ?_ | refine g_in_exit_ne (by decide) ?_ | refine g_seq ?_ | refine g_region ?_ | refine g_block ?_ | refine g_ret ?_ | refine g_return_n ?_ | refine g_exit ?_ | refine g_skip ?_)
  refine o_boxc x.val.cells rfl rfl fun q => ?_
  refine o_assign ?_
  first | refine g_endt ?_ | refine g_end ?_
  repeat (first | refine g_endt ?_ | refine g_end ?_ | refine g_then ?_ | refine g_in_normal ?_ | refine g_then_ret ?_ | refine g_in_ret ?_ | refine g_then_exit ?_ | refine g_in_exit rfl ?_ | refine g_in_exit_ne (by decide) ?_ | refine g_seq ?_ | refine g_region ?_ | refine g_block ?_ | refine g_ret ?_ | refine g_return_n ?_ | refine g_exit ?_ | refine g_skip ?_)
  refine o_move ?_
  refine o_peql rfl ?_
  first | refine g_endt ?_ | refine g_end ?_
  first | refine g_seq (g_cond_f rfl (rfl) ?_) | refine g_cond_f rfl (rfl) ?_
  repeat (first | refine g_endt ?_ | refine g_end ?_ | refine g_then ?_ | refine g_in_normal ?_ | refine g_then_ret ?_ | refine g_in_ret ?_ | refine g_then_exit ?_ | refine g_in_exit rfl ?_ | refine g_in_exit_ne (by decide) ?_ | refine g_seq ?_ | refine g_region ?_ | refine g_block ?_ | refine g_ret ?_ | refine g_return_n ?_ | refine g_exit ?_ | refine g_skip ?_)
  refine o_move ?_
  refine o_loadN (v := x.val) rfl rfl rfl ?_
  refine o_call (findSS_spec p ys x hs (by omega)) rfl rfl ?_
  rintro _ _ ⟨k, there, rfl, rfl, hk⟩
  refine o_move ?_
  refine o_extract rfl rfl ?_
  refine o_extract rfl rfl ?_
  refine o_assign ?_
  refine o_assign ?_
  first | refine g_endt ?_ | refine g_end ?_
  repeat (first | refine g_endt ?_ | refine g_end ?_ | refine g_then ?_ | refine g_in_normal ?_ | refine g_then_ret ?_ | refine g_in_ret ?_ | refine g_then_exit ?_ | refine g_in_exit rfl ?_ | refine g_in_exit_ne (by decide) ?_ | refine g_seq ?_ | refine g_region ?_ | refine g_block ?_ | refine g_ret ?_ | refine g_return_n ?_ | refine g_exit ?_ | refine g_skip ?_)
  refine o_move ?_
  refine g_endt ?_
  cases there
  case true =>
    first | refine g_seq (g_cond_t rfl (rfl) ?_) | refine g_cond_t rfl (rfl) ?_
    repeat (first | refine g_endt ?_ | refine g_end ?_ | refine g_then ?_ | refine g_in_normal ?_ | refine g_then_ret ?_ | refine g_in_ret ?_ | refine g_then_exit ?_ | refine g_in_exit rfl ?_ | refine g_in_exit_ne (by decide) ?_ | refine g_seq ?_ | refine g_region ?_ | refine g_block ?_ | refine g_ret ?_ | refine g_return_n ?_ | refine g_exit ?_ | refine g_skip ?_)
    refine o_assign ?_
    first | refine g_endt ?_ | refine g_end ?_
    repeat (first | refine g_endt ?_ | refine g_end ?_ | refine g_then ?_ | refine g_in_normal ?_ | refine g_then_ret ?_ | refine g_in_ret ?_ | refine g_then_exit ?_ | refine g_in_exit rfl ?_ | refine g_in_exit_ne (by decide) ?_ | refine g_seq ?_ | refine g_region ?_ | refine g_block ?_ | refine g_ret ?_ | refine g_return_n ?_ | refine g_exit ?_ | refine g_skip ?_)
    exact ret1 (K := [SetASS p ys]) rfl (resT rfl) ⟨k, true, rfl, rfl, hk⟩
  first | refine g_seq (g_cond_f rfl (rfl) ?_) | refine g_cond_f rfl (rfl) ?_
  repeat (first | refine g_endt ?_ | refine g_end ?_ | refine g_then ?_ | refine g_in_normal ?_ | refine g_then_ret ?_ | refine g_in_ret ?_ | refine g_then_exit ?_ | refine g_in_exit rfl ?_ | refine g_in_exit_ne (by decide) ?_ | refine g_seq ?_ | refine g_region ?_ | refine g_block ?_ | refine g_ret ?_ | refine g_return_n ?_ | refine g_exit ?_ | refine g_skip ?_)
  refine o_move ?_
  refine o_call (ownSS_spec p ys (by omega)) rfl rfl ?_
  rintro _ _ ⟨S, c, rfl⟩
  refine g_endt ?_
  repeat (first | refine g_endt ?_ | refine g_end ?_ | refine g_then ?_ | refine g_in_normal ?_ | refine g_then_ret ?_ | refine g_in_ret ?_ | refine g_then_exit ?_ | refine g_in_exit rfl ?_ | refine g_in_exit_ne (by decide) ?_ | refine g_seq ?_ | refine g_region ?_ | refine g_block ?_ | refine g_ret ?_ | refine g_return_n ?_ | refine g_exit ?_ | refine g_skip ?_)
  refine g_draw [6, 7, 10] [0,1,2,3,4,5,6,7,8,9,10] [cellsB p #[.slice S ys.length c, .bool false] 124, cellsB q x.val.cells 31] mixed rfl ?_
  refine ob_q rfl rfl ⟨_, fun X Q h => o_move (g_end (h _ _ ⟨rfl, rfl⟩)), ?_⟩
  refine ob_q rfl rfl ⟨_, fun X Q h => o_move (g_end (h _ _ ⟨rfl, rfl⟩)), ?_⟩
  refine ob_q rfl rfl ⟨_, fun X Q h => o_nil rfl (g_end (h _ _ ⟨rfl, rfl⟩)), ?_⟩
  refine ob_q rfl rfl ⟨_, fun X Q h => o_field rfl (g_end (h _ _ ⟨rfl, rfl⟩)), ?_⟩
  refine ob_q rfl rfl ⟨_, fun X Q h => o_load1 (v := .slice S ys.length c) rfl rfl (g_end (h _ _ ⟨rfl, rfl⟩)), ?_⟩
  refine ob_q rfl rfl ⟨_, fun X Q h => o_loadN (v := x.val) rfl rfl rfl (g_end (h _ _ ⟨rfl, rfl⟩)), ?_⟩
  refine ob_l rfl rfl fun Qz hz => o_slice_lit (e := 31) x.val.cells (fun w => by kernel_rfl) fun g => G.lit_slice (enc := SymD.enc) (sz := 3) [x] (by simp [SymD.enc]) (by simp [maxLen]) <| G.freeze_slice <| g_end (hz _ _ ⟨_, ob_fin, ?_⟩)
  clear hz Qz
  refine ob_l rfl rfl fun Qz hz => o_append (xs := ys) (ys := [x]) rfl rfl rfl rfl rfl (fun _ => .inr trivial) (by simp [maxLen]; omega) (by simp; omega) fun U d => g_end (hz _ _ ⟨_, ob_fin, ?_⟩)
  clear hz Qz
  refine ob_q rfl rfl ⟨_, fun X Q h => o_nil rfl (g_end (h _ _ ⟨rfl, rfl⟩)), ?_⟩
  refine ob_q rfl rfl ⟨_, fun X Q h => o_field rfl (g_end (h _ _ ⟨rfl, rfl⟩)), ?_⟩
  refine ob_s ([]) rfl rfl rfl fun Qz hz => o_store (v := .slice U (ys.length + 1) d) rfl rfl rfl rfl rfl <| g_end (hz _ _ ⟨_, ob_fin, ?_⟩)
  clear hz Qz
  refine ob_nil ?_
  refine G.norm p #[.slice U (ys.length + 1) d, .bool false] rfl ?_
  repeat (first | refine g_endt ?_ | refine g_end ?_ | refine g_then ?_ | refine g_in_normal ?_ | refine g_then_ret ?_ | refine g_in_ret ?_ | refine g_then_exit ?_ | refine g_in_exit rfl ?_ | refine g_in_exit_ne (by decide) ?_ | refine g_seq ?_ | refine g_region ?_ | refine g_block ?_ | refine g_ret ?_ | refine g_return_n ?_ | refine g_exit ?_ | refine g_skip ?_)
  refine o_move ?_
  refine o_nil rfl ?_
  refine o_field rfl ?_
  refine o_load1 (v := .slice U (ys.length + 1) d) rfl rfl ?_
  refine o_len rfl rfl ?_
  refine o_sub (c := ((ys.length : Nat) : Int)) rfl rfl (by omega) (by omega) (by omega) ?_
  refine o_assign ?_
  refine g_endt ?_
  repeat (first | refine g_endt ?_ | refine g_end ?_ | refine g_then ?_ | refine g_in_normal ?_ | refine g_then_ret ?_ | refine g_in_ret ?_ | refine g_then_exit ?_ | refine g_in_exit rfl ?_ | refine g_in_exit_ne (by decide) ?_ | refine g_seq ?_ | refine g_region ?_ | refine g_block ?_ | refine g_ret ?_ | refine g_return_n ?_ | refine g_exit ?_ | refine g_skip ?_)
  have hk1 : k ≤ ys.length := hk.1
  refine g_loop (σ := {s : Nat × SymD // k ≤ s.1 ∧ s.1 ≤ ys.length})
    (S := fun s => [(0, .pointer (some ⟨p, 0, none⟩)), (3, .pointer (some ⟨q, 0, none⟩)), (5, .int .i64 (k : Int)), (7, .int .i64 (s.1.1 : Int))])
    (H := fun s => [cellsB p #[.slice U (ys.length + 1) d, .bool false] 124, cellsB q x.val.cells 31, osl 31 SymD.enc 3 U d (ys.take s.1.1 ++ s.1.2 :: ys.drop s.1.1)]) (μ := fun s => s.1.1)
    (s0 := ⟨(ys.length, x), hk1, Nat.le_refl _⟩) (Sat.mem ⟨rfl, rfl, rfl, rfl, trivial⟩) (t := by simp only [List.take_length, List.drop_length]; infer_instance) ?_
  rintro ⟨⟨i, w⟩, h1, h2⟩ ρ'
  dsimp only at h1 h2 ⊢
  have hlen : (ys.take i ++ w :: ys.drop i).length = ys.length + 1 := by simp; omega
  repeat (first | refine g_endt ?_ | refine g_end ?_ | refine g_then ?_ | refine g_in_normal ?_ | refine g_then_ret ?_ | refine g_in_ret ?_ | refine g_then_exit ?_ | refine g_in_exit rfl ?_ | refine g_in_exit_ne (by decide) ?_ | refine g_seq ?_ | refine g_region ?_ | refine g_block ?_ | refine g_ret ?_ | refine g_return_n ?_ | refine g_exit ?_ | refine g_skip ?_)
  refine o_move ?_
  refine o_move ?_
  refine o_gtr rfl rfl ?_
  first | refine g_endt ?_ | refine g_end ?_
  by_cases h : k < i
  · first | refine g_seq (g_cond_t rfl (by simpa using h) ?_) | refine g_cond_t rfl (by simpa using h) ?_
    repeat (first | refine g_endt ?_ | refine g_end ?_ | refine g_then ?_ | refine g_in_normal ?_ | refine g_then_ret ?_ | refine g_in_ret ?_ | refine g_then_exit ?_ | refine g_in_exit rfl ?_ | refine g_in_exit_ne (by decide) ?_ | refine g_seq ?_ | refine g_region ?_ | refine g_block ?_ | refine g_ret ?_ | refine g_return_n ?_ | refine g_exit ?_ | refine g_skip ?_)
    obtain ⟨i, rfl⟩ : ∃ j, i = j + 1 := ⟨i - 1, by omega⟩
    have hi : i < ys.length := by omega
    obtain ⟨y, hy⟩ : ∃ y, ys[i]? = some y := ⟨_, List.getElem?_eq_getElem hi⟩
    have hz : (ys.take (i + 1) ++ w :: ys.drop (i + 1))[i]? = some y := by
      rw [List.getElem?_append_left (by simp; omega), List.getElem?_take, if_pos (by omega), hy]
    refine g_draw [14] [0,1,2,3,4,5,6,7,8,9,10,11,12,13,14] [cellsB p #[.slice U (ys.length + 1) d, .bool false] 124, osl 31 SymD.enc 3 U d (ys.take (i + 1) ++ w :: ys.drop (i + 1))] mixed rfl ?_
    refine ob_q rfl rfl ⟨_, fun X Q h => o_move (g_end (h _ _ ⟨rfl, rfl⟩)), ?_⟩
    refine ob_q rfl rfl ⟨_, fun X Q h => o_nil rfl (g_end (h _ _ ⟨rfl, rfl⟩)), ?_⟩
    refine ob_q rfl rfl ⟨_, fun X Q h => o_field rfl (g_end (h _ _ ⟨rfl, rfl⟩)), ?_⟩
    refine ob_q rfl rfl ⟨_, fun X Q h => o_load1 (v := .slice U (ys.length + 1) d) rfl rfl (g_end (h _ _ ⟨rfl, rfl⟩)), ?_⟩
    refine ob_q rfl rfl ⟨_, fun X Q h => o_move (g_end (h _ _ ⟨rfl, rfl⟩)), ?_⟩
    refine ob_q rfl rfl ⟨_, fun X Q h => o_move (g_end (h _ _ ⟨rfl, rfl⟩)), ?_⟩
    refine ob_q rfl rfl ⟨_, fun X Q h => o_nil rfl (g_end (h _ _ ⟨rfl, rfl⟩)), ?_⟩
    refine ob_q rfl rfl ⟨_, fun X Q h => o_field rfl (g_end (h _ _ ⟨rfl, rfl⟩)), ?_⟩
    refine ob_q rfl rfl ⟨_, fun X Q h => o_load1 (v := .slice U (ys.length + 1) d) rfl rfl (g_end (h _ _ ⟨rfl, rfl⟩)), ?_⟩
    refine ob_q rfl rfl ⟨_, fun X Q h => o_move (g_end (h _ _ ⟨rfl, rfl⟩)), ?_⟩
    refine ob_q rfl rfl ⟨_, fun X Q h => o_sub (c := ((i : Nat) : Int)) rfl rfl (by omega) (by omega) (by omega) (g_end (h _ _ ⟨rfl, rfl⟩)), ?_⟩
    refine ob_q rfl rfl ⟨_, fun X Q h => o_indexR (i := i) rfl rfl rfl (by omega) hlen rfl (g_end (h _ _ ⟨rfl, rfl⟩)), ?_⟩
    refine ob_q rfl rfl ⟨_, fun X Q h => o_loadE (enc := SymD.enc) rfl rfl hz (g_end (h _ _ ⟨rfl, rfl⟩)), ?_⟩
    refine ob_q rfl rfl ⟨_, fun X Q h => o_indexR (i := i + 1) rfl rfl rfl (by omega) hlen rfl (g_end (h _ _ ⟨rfl, rfl⟩)), ?_⟩
    refine ob_s ([]) rfl rfl rfl fun Qz hz => o_storeE (e := 31) (c := d) (v := y.val) (z := y) (i := i + 1) (enc := SymD.enc) (xs := ys.take (i + 1) ++ w :: ys.drop (i + 1)) rfl rfl rfl rfl (by omega) <| g_end (hz _ _ ⟨_, ob_fin, ?_⟩)
    clear hz Qz
    refine ob_nil ?_
    rw [gapSS ys i w y hi hy]
    repeat (first | refine g_endt ?_ | refine g_end ?_ | refine g_then ?_ | refine g_in_normal ?_ | refine g_then_ret ?_ | refine g_in_ret ?_ | refine g_then_exit ?_ | refine g_in_exit rfl ?_ | refine g_in_exit_ne (by decide) ?_ | refine g_seq ?_ | refine g_region ?_ | refine g_block ?_ | refine g_ret ?_ | refine g_return_n ?_ | refine g_exit ?_ | refine g_skip ?_)
    refine o_move ?_
    refine o_sub (c := ((i : Nat) : Int)) rfl rfl (by omega) (by omega) (by omega) ?_
    refine o_assign ?_
    refine g_endt ?_
    repeat (first | refine g_endt ?_ | refine g_end ?_ | refine g_then ?_ | refine g_in_normal ?_ | refine g_then_ret ?_ | refine g_in_ret ?_ | refine g_then_exit ?_ | refine g_in_exit rfl ?_ | refine g_in_exit_ne (by decide) ?_ | refine g_seq ?_ | refine g_region ?_ | refine g_block ?_ | refine g_ret ?_ | refine g_return_n ?_ | refine g_exit ?_ | refine g_skip ?_)
    exact g_meets ⟨(i, y), by show k ≤ i; omega, by show i ≤ ys.length; omega⟩ (by show i < i + 1; omega) (Sat.mem ⟨rfl, rfl, rfl, rfl, trivial⟩)
  · first | refine g_seq (g_cond_f rfl (by simpa using h) ?_) | refine g_cond_f rfl (by simpa using h) ?_
    have e : i = k := by omega
    subst e
    repeat (first | refine g_endt ?_ | refine g_end ?_ | refine g_then ?_ | refine g_in_normal ?_ | refine g_then_ret ?_ | refine g_in_ret ?_ | refine g_then_exit ?_ | refine g_in_exit rfl ?_ | refine g_in_exit_ne (by decide) ?_ | refine g_seq ?_ | refine g_region ?_ | refine g_block ?_ | refine g_ret ?_ | refine g_return_n ?_ | refine g_exit ?_ | refine g_skip ?_)
    refine g_draw [7] [0,1,2,3,4,5,6,7] [cellsB p #[.slice U (ys.length + 1) d, .bool false] 124, osl 31 SymD.enc 3 U d (ys.take i ++ w :: ys.drop i), cellsB q x.val.cells 31] mixed rfl ?_
    refine ob_q rfl rfl ⟨_, fun X Q h => o_move (g_end (h _ _ ⟨rfl, rfl⟩)), ?_⟩
    refine ob_q rfl rfl ⟨_, fun X Q h => o_nil rfl (g_end (h _ _ ⟨rfl, rfl⟩)), ?_⟩
    refine ob_q rfl rfl ⟨_, fun X Q h => o_field rfl (g_end (h _ _ ⟨rfl, rfl⟩)), ?_⟩
    refine ob_q rfl rfl ⟨_, fun X Q h => o_load1 (v := .slice U (ys.length + 1) d) rfl rfl (g_end (h _ _ ⟨rfl, rfl⟩)), ?_⟩
    refine ob_q rfl rfl ⟨_, fun X Q h => o_move (g_end (h _ _ ⟨rfl, rfl⟩)), ?_⟩
    refine ob_q rfl rfl ⟨_, fun X Q h => o_loadN (v := x.val) rfl rfl rfl (g_end (h _ _ ⟨rfl, rfl⟩)), ?_⟩
    refine ob_q rfl rfl ⟨_, fun X Q h => o_indexR (i := i) rfl rfl rfl (by omega) hlen rfl (g_end (h _ _ ⟨rfl, rfl⟩)), ?_⟩
    refine ob_s ([]) rfl rfl rfl fun Qz hz => o_storeE (e := 31) (c := d) (v := x.val) (z := x) (i := i) (enc := SymD.enc) (xs := ys.take i ++ w :: ys.drop i) rfl rfl rfl rfl (by omega) <| g_end (hz _ _ ⟨_, ob_fin, ?_⟩)
    clear hz Qz
    refine ob_nil ?_
    have hset : (ys.take i ++ w :: ys.drop i).set i x = ys.take i ++ x :: ys.drop i := by
      have h3 : (ys.take i).length = i := by simp; omega
      rw [List.set_append_right _ _ (by omega), h3, Nat.sub_self, List.set_cons_zero]
    rw [hset]
    repeat (first | refine g_endt ?_ | refine g_end ?_ | refine g_then ?_ | refine g_in_normal ?_ | refine g_then_ret ?_ | refine g_in_ret ?_ | refine g_then_exit ?_ | refine g_in_exit rfl ?_ | refine g_in_exit_ne (by decide) ?_ | refine g_seq ?_ | refine g_region ?_ | refine g_block ?_ | refine g_ret ?_ | refine g_return_n ?_ | refine g_exit ?_ | refine g_skip ?_)
    refine o_assign ?_
    first | refine g_endt ?_ | refine g_end ?_
    refine shutFSS p (ys.take i ++ x :: ys.drop i) U d (len := ys.length + 1) (by simp; omega) ?_
    repeat (first | refine g_endt ?_ | refine g_end ?_ | refine g_then ?_ | refine g_in_normal ?_ | refine g_then_ret ?_ | refine g_in_ret ?_ | refine g_then_exit ?_ | refine g_in_exit rfl ?_ | refine g_in_exit_ne (by decide) ?_ | refine g_seq ?_ | refine g_region ?_ | refine g_block ?_ | refine g_ret ?_ | refine g_return_n ?_ | refine g_exit ?_ | refine g_skip ?_)
    exact ret1 (K := [SetASS p (ys.take i ++ x :: ys.drop i)]) rfl (resT rfl) ⟨i, false, rfl, rfl, hk⟩
end Go.Proofs.Ytonjhakjnopbjaa
/- An ordered set's Put, told as a function of lists. -/
namespace Go.Proofs.Ytonjhakjnopbjaa
open Go Go.Sl

theorem PutCSS_spec (p : Nat) (ys : List SymD) (x : SymD) (hs : Srt SymD.cmp ys) (hl : ys.length < 1000000000) : Ctr Try.prog 76 [.pointer (some ⟨p, 0, none⟩), x.val] [SetASS p ys]
    (fun v M => v = .bool (!hasC SymD.cmp ys x) ∧ M = [SetASS p (insC SymD.cmp ys x)]) := (PutSS_spec p ys x hs hl).mono fun v M ⟨k, there, h1, h2, h3⟩ => by
  rw [h1, h2, hasC_of h3, insC_of SymD.lin hs h3]
  exact ⟨rfl, rfl⟩
end Go.Proofs.Ytonjhakjnopbjaa
/- An ordered set's functions, for one type of members: made. -/
namespace Go.Proofs.Ytonjhakjnopbjaa
open Go Go.Sl
attribute [local irreducible] Code.wpIn roundPost bodyPostM runL Ret Meets Begin

theorem NilSS_set (p : Nat) {w0 : World} {A : SProp} {L M : List SProp} {Φ : World → Prop} [tk : Take1 L (cellsB p #[.slice none 0 0, .bool false] 124) M] (h : G w0 A (SetASS p [] :: M) Φ) : G w0 A L Φ :=
  G.perm tk.perm (G.nil_slice (α := SymD) 31 SymD.enc 3 (shutFSS p [] none 0 rfl (M := M) (tk := ⟨List.Perm.swap _ _ _⟩) h))
theorem NewSS_spec : Ctr Try.prog 73 [.slice none 0 0] [] (fun v M => ∃ p, v = .pointer (some ⟨p, 0, none⟩) ∧ M = [SetASS p []]) := by
  refine spec_of Try.func73 rfl Try.ntmps73 rfl fun w0 F => ?_
  repeat (first | refine g_endt ?_ | refine g_end ?_ | refine g_then ?_ | refine g_in_normal ?_ | refine g_then_ret ?_ | refine g_in_ret ?_ | refine g_then_exit ?_ | refine g_in_exit rfl ?_ | refine g_in_exit_ne (by decide) ?_ | refine g_seq ?_ | refine g_region ?_ | refine g_block ?_ | refine g_ret ?_ | refine g_return_n ?_ | refine g_exit ?_ | refine g_skip ?_)
  refine o_assign ?_
  first | refine g_endt ?_ | refine g_end ?_
  repeat (first | refine g_endt ?_ | refine g_end ?_ | refine g_then ?_ | refine g_in_normal ?_ | refine g_then_ret ?_ | refine g_in_ret ?_ | refine g_then_exit ?_ | refine g_in_exit rfl ?_ | refine g_in_exit_ne (by decide) ?_ | refine g_seq ?_ | refine g_region ?_ | refine g_block ?_ | refine g_ret ?_ | refine g_return_n ?_ | refine g_exit ?_ | refine g_skip ?_)
  refine o_build (.agg #[.slice none 0 0, .bool false]) (fun w => by kernel_rfl) ?_
  refine o_boxc #[.slice none 0 0, .bool false] rfl rfl fun p => ?_
  refine NilSS_set p ?_
  refine o_assign ?_
  refine g_endt ?_
  repeat (first | refine g_endt ?_ | refine g_end ?_ | refine g_then ?_ | refine g_in_normal ?_ | refine g_then_ret ?_ | refine g_in_ret ?_ | refine g_then_exit ?_ | refine g_in_exit rfl ?_ | refine g_in_exit_ne (by decide) ?_ | refine g_seq ?_ | refine g_region ?_ | refine g_block ?_ | refine g_ret ?_ | refine g_return_n ?_ | refine g_exit ?_ | refine g_skip ?_)
  refine o_move ?_
  refine o_len rfl rfl ?_
  refine o_move ?_
  first | refine g_endt ?_ | refine g_end ?_
  repeat (first | refine g_endt ?_ | refine g_end ?_ | refine g_then ?_ | refine g_in_normal ?_ | refine g_then_ret ?_ | refine g_in_ret ?_ | refine g_then_exit ?_ | refine g_in_exit rfl ?_ | refine g_in_exit_ne (by decide) ?_ | refine g_seq ?_ | refine g_region ?_ | refine g_block ?_ | refine g_ret ?_ | refine g_return_n ?_ | refine g_exit ?_ | refine g_skip ?_)
  refine g_loop (σ := Unit) (S := fun _ => [(3, .pointer (some ⟨p, 0, none⟩)), (9, .int .i64 0), (10, .int .i64 0)]) (H := fun _ => [SetASS p []]) (μ := fun _ => 0) (s0 := ()) (Sat.mem ⟨rfl, rfl, rfl, trivial⟩) ?_
  rintro _ ρ'
  repeat (first | refine g_endt ?_ | refine g_end ?_ | refine g_then ?_ | refine g_in_normal ?_ | refine g_then_ret ?_ | refine g_in_ret ?_ | refine g_then_exit ?_ | refine g_in_exit rfl ?_ | refine g_in_exit_ne (by decide) ?_ | refine g_seq ?_ | refine g_region ?_ | refine g_block ?_ | refine g_ret ?_ | refine g_return_n ?_ | refine g_exit ?_ | refine g_skip ?_)
  refine o_lss rfl rfl ?_
  first | refine g_endt ?_ | refine g_end ?_
  first | refine g_seq (g_cond_f rfl (rfl) ?_) | refine g_cond_f rfl (rfl) ?_
  repeat (first | refine g_endt ?_ | refine g_end ?_ | refine g_then ?_ | refine g_in_normal ?_ | refine g_then_ret ?_ | refine g_in_ret ?_ | refine g_then_exit ?_ | refine g_in_exit rfl ?_ | refine g_in_exit_ne (by decide) ?_ | refine g_seq ?_ | refine g_region ?_ | refine g_block ?_ | refine g_ret ?_ | refine g_return_n ?_ | refine g_exit ?_ | refine g_skip ?_)
  refine o_move ?_
  refine o_assign ?_
  first | refine g_endt ?_ | refine g_end ?_
  repeat (first | refine g_endt ?_ | refine g_end ?_ | refine g_then ?_ | refine g_in_normal ?_ | refine g_then_ret ?_ | refine g_in_ret ?_ | refine g_then_exit ?_ | refine g_in_exit rfl ?_ | refine g_in_exit_ne (by decide) ?_ | refine g_seq ?_ | refine g_region ?_ | refine g_block ?_ | refine g_ret ?_ | refine g_return_n ?_ | refine g_exit ?_ | refine g_skip ?_)
  exact ret1 rfl (resT rfl) ⟨p, rfl, rfl⟩
end Go.Proofs.Ytonjhakjnopbjaa
/- Many assertions at once; loops in which loops over functions stand. Plain library, no program in sight. -/
namespace Go.Sl
open Go Go.Proofs

def bigS {α : Type} (ys : List α) (f : α → SProp) : SProp := sl (ys.map f)
theorem bigS_perm {α : Type} {ys zs : List α} (h : ys.Perm zs) (f : α → SProp) : Ent (bigS ys f) (bigS zs f) := sl_perm (h.map f)
theorem bigS_congr {α : Type} {ys : List α} {f g : α → SProp} (h : ∀ y ∈ ys, f y = g y) : bigS ys f = bigS ys g := congrArg sl (List.map_congr_left h)
section
variable {α : Type} {w0 : World} {A : SProp} {L M : List SProp} {Φ : World → Prop}
theorem G.bopen {ys : List α} {f : α → SProp} (y : α) (zs : List α) (hp : ys.Perm (y :: zs)) [tk : Take1 L (bigS ys f) M] (h : G w0 A (f y :: bigS zs f :: M) Φ) : G w0 A L Φ :=
  G.perm tk.perm (G.ent (L := bigS ys f :: M) (L' := f y :: bigS zs f :: M) (((bigS_perm hp f).star (Ent.refl _)).trans (Ent.assoc (f y) (bigS zs f) (sl M))) h)
theorem G.bshut (ys : List α) (f : α → SProp) (y : α) (zs : List α) (hp : (y :: zs).Perm ys) [tk : Take L [f y, bigS zs f] M] (h : G w0 A (bigS ys f :: M) Φ) : G w0 A L Φ :=
  G.perm tk.perm (G.ent (L := f y :: bigS zs f :: M) (L' := bigS ys f :: M) ((Ent.assoc' (f y) (bigS zs f) (sl M)).trans ((bigS_perm hp f).star (Ent.refl _))) h)
theorem G.bnil (f : α → SProp) (h : G w0 A (bigS [] f :: L) Φ) : G w0 A L Φ := G.ent (L := L) (L' := bigS [] f :: L) (Ent.emp_left (sl L)) h
theorem G.beq {ys : List α} {f g : α → SProp} (e : bigS ys f = bigS ys g) [tk : Take1 L (bigS ys f) M] (h : G w0 A (bigS ys g :: M) Φ) : G w0 A L Φ := G.perm tk.perm (by rw [e]; exact h)
end
theorem mem_perm {α : Type} {ys : List α} {y : α} (h : y ∈ ys) : ∃ zs, ys.Perm (y :: zs) := by
  obtain ⟨s, t, rfl⟩ := List.append_of_mem h
  exact ⟨s ++ t, List.perm_middle⟩

section
variable {w0 : World} {F : SProp} {L : List SProp} {Fe : Fence} {m : Nat} {P : Program} {Q : Exit → Act → World → Prop} {a : Act}
/-- As 'Meets', whatever loops over functions came by. -/
def MeetsD {σ : Type} (w0 : World) (F : SProp) (n : Nat) (S : σ → List (Nat × Value)) (H : σ → List SProp) (ok : σ → Prop) (a : Act) (w : World) : Prop :=
  ∃ s ρ ds, ok s ∧ a = act n ρ ds ∧ (∀ p ∈ S s, ρ p.1 = p.2) ∧ Std w0 w ∧ holds (star (star (dfr ds) F) (sl (H s))) w
theorem MeetsD.elim {σ : Type} {n : Nat} {S : σ → List (Nat × Value)} {H : σ → List SProp} {ok : σ → Prop} {w : World} {Φ : Act → World → Prop} (h : MeetsD w0 F n S H ok a w)
    (k : ∀ s ρ ds, ok s → G w0 (star (dfr ds) F) (H s) (fun w => Φ (act n (updl ρ (S s)) ds) w)) : Φ a w := by
  obtain ⟨s, ρ, ds, ho, rfl, hs, hw, hh⟩ := h
  have := k s ρ ds ho w hw hh
  rwa [updl_self hs] at this
theorem g_meetsD {σ : Type} {n : Nat} {ρ : Nat → Value} {ds : List Nat} {S : σ → List (Nat × Value)} {H : σ → List SProp} {ok : σ → Prop} {M : List SProp} (s : σ) (ho : ok s) (hs : ∀ p ∈ S s, ρ p.1 = p.2) [t : Take L (H s) M] :
    G w0 (star (dfr ds) F) L (fun w => MeetsD w0 F n S H ok (act n ρ ds) w) := fun _ hw hh =>
  ⟨s, ρ, ds, ho, rfl, hs, hw, hh.ent ((Ent.refl _).star ((sl_perm t.perm).trans ((sl_append_to _ _).trans (Ent.left _ _))))⟩
theorem g_loopD {σ : Type} {n : Nat} {ρ : Nat → Value} {ds : List Nat} {c : Code} (S : σ → List (Nat × Value)) (H : σ → List SProp) (μ : σ → Nat) (s0 : σ) {M : List SProp}
    (h0 : ∀ p ∈ S s0, ρ p.1 = p.2) [t : Take L (H s0) M]
    (k : ∀ s ρ' ds', G w0 (star (dfr ds') F) (H s) (fun w => c.wpIn Fe m P (Exit.then (MeetsD w0 F n S H (fun s' => μ s' < μ s)) Q) (act n (updl ρ' (S s)) ds') w)) :
    G w0 (star (dfr ds) F) L (fun w => (Code.loop c).wpIn Fe m P Q (act n ρ ds) w) := by
  intro w hw hh
  refine wpIn_loop_by (fun s a w => ∃ ρ ds, a = act n ρ ds ∧ (∀ p ∈ S s, ρ p.1 = p.2) ∧ Std w0 w ∧ holds (star (star (dfr ds) F) (sl (H s))) w) μ s0
    ⟨ρ, ds, rfl, h0, hw, hh.ent ((Ent.refl _).star ((sl_perm t.perm).trans ((sl_append_to _ _).trans (Ent.left _ _))))⟩ ?_
  rintro s a w ⟨ρ, ds, rfl, hs, hw, hh⟩
  have := k s ρ ds w hw hh
  rw [updl_self hs] at this
  refine wpIn_mono this ?_
  intro e a' w' hq
  cases e with
  | normal =>
    obtain ⟨s', ρ', ds', ho, ha, hs', hw', hh'⟩ := hq
    exact ⟨s', ⟨ρ', ds', ha, hs', hw', hh'⟩, ho⟩
  | _ => exact hq
theorem g_cutD {σ : Type} {n : Nat} {ρ : Nat → Value} {ds : List Nat} {x y : Code} (S : σ → List (Nat × Value)) (H : σ → List SProp) (ok : σ → Prop)
    (h : G w0 (star (dfr ds) F) L (fun w => x.wpIn Fe m P (Exit.then (MeetsD w0 F n S H ok) Q) (act n ρ ds) w))
    (k : ∀ s ρ' ds', ok s → G w0 (star (dfr ds') F) (H s) (fun w => y.wpIn Fe m P Q (act n (updl ρ' (S s)) ds') w)) : G w0 (star (dfr ds) F) L (fun w => (Code.seq x y).wpIn Fe m P Q (act n ρ ds) w) := by
  refine h.mono fun _ hw => wpIn_seq (wpIn_mono hw ?_)
  intro e a w' hq
  cases e with
  | normal => exact MeetsD.elim (Φ := fun a w => y.wpIn Fe m P Q a w) hq k
  | _ => exact hq
theorem g_cutkD {σ : Type} {n : Nat} {ρ : Nat → Value} {ds : List Nat} {x : Code} {K : Act → World → Prop} (S : σ → List (Nat × Value)) (H : σ → List SProp) (ok : σ → Prop)
    (h : G w0 (star (dfr ds) F) L (fun w => x.wpIn Fe m P (Exit.then (MeetsD w0 F n S H ok) Q) (act n ρ ds) w))
    (k : ∀ s ρ' ds', ok s → G w0 (star (dfr ds') F) (H s) (fun w => K (act n (updl ρ' (S s)) ds') w)) : G w0 (star (dfr ds) F) L (fun w => x.wpIn Fe m P (Exit.then K Q) (act n ρ ds) w) := by
  refine h.mono fun _ hw => wpIn_mono hw ?_
  intro e a w' hq
  cases e with
  | normal => exact MeetsD.elim (Φ := K) hq k
  | _ => exact hq
/-- A cut behind a block. -/
theorem g_cutbD {σ : Type} {n : Nat} {ρ : Nat → Value} {ds : List Nat} {x : Code} {id : Nat} {K : Act → World → Prop} (T : σ → List (Nat × Value)) (H : σ → List SProp) (ok : σ → Prop)
    (h : G w0 (star (dfr ds) F) L (fun w => x.wpIn Fe m P (Exit.inBlock id (Exit.then (MeetsD w0 F n T H ok) Q)) (act n ρ ds) w))
    (k : ∀ s ρ' ds', ok s → G w0 (star (dfr ds') F) (H s) (fun w => K (act n (updl ρ' (T s)) ds') w)) : G w0 (star (dfr ds) F) L (fun w => x.wpIn Fe m P (Exit.inBlock id (Exit.then K Q)) (act n ρ ds) w) := by
  refine h.mono fun _ hw => wpIn_mono hw ?_
  intro e a w' hq
  cases e with
  | normal => exact MeetsD.elim (Φ := K) hq k
  | exit j =>
    simp only [Exit.inBlock] at hq ⊢
    split at hq
    · rename_i hj; rw [if_pos hj]; exact MeetsD.elim (Φ := K) hq k
    · rename_i hj; rw [if_neg hj]; exact hq
  | _ => exact hq
end
end Go.Sl
/- A row that is eaten from its head and grows at its end. Plain library, no program in sight. -/
namespace Go.Sl
open Go Go.Proofs Go.RowKit

def qsl {α : Type} (e : TypeId) (enc : α → List Value) (sz : Nat) (A : Option Addr) (c : Nat) (ys : List α) : SProp where
  on _ h := ∃ g o cur, A = some ⟨g, o, none⟩ ∧ h g = some (.cells cur e (0, 0)) ∧ ys.length ≤ c ∧ c ≤ maxLen ∧ o + c * sz ≤ cur.size ∧ (cur.toList.drop o).take (ys.length * sz) = ys.flatMap enc
  mono := fun _ m ⟨g, o, cur, a, b, r⟩ => ⟨g, o, cur, a, m _ _ b, r⟩
section
variable {α : Type} {e : TypeId} {enc : α → List Value} {sz c : Nat} {S : Option Addr} {xs ys : List α}
theorem qsl_rd [en : EncLen enc sz] {B h : Hp} (x : (qsl e enc sz S c ys).on B h) : rdE S enc sz ys h := by
  intro i y hy
  obtain ⟨g, o, cur, hA, hg, hl, hc, hs, ht⟩ := x
  refine ⟨g, o, hA, fun j u hu => ?_⟩
  have h1 := flat_get ys i j y u hy hu
  rw [← ht] at h1
  have h2 : cur[o + (i * sz + j)]? = some u := by
    rw [List.getElem?_take] at h1
    split at h1
    · rw [List.getElem?_drop] at h1
      simpa using h1
    · cases h1
  simp [cellH, hg, h2]
instance HasRd.qhead {L : List SProp} [EncLen enc sz] : HasRd (qsl e enc sz S c ys :: L) S enc sz ys :=
  ⟨Sees.left fun _ ⟨_, _, _, _, m, x⟩ => (qsl_rd x).le m⟩
theorem qsl_open {C : SProp} {w : World} (h : holds (star (qsl e enc sz S c ys) C) w) : ∃ g o cur, S = some ⟨g, o, none⟩ ∧ ys.length ≤ c ∧ c ≤ maxLen ∧ o + c * sz ≤ cur.size ∧ (cur.toList.drop o).take (ys.length * sz) = ys.flatMap enc ∧ holds (star (blk g (.cells cur e (0, 0))) C) w := by
  obtain ⟨B, k, d, l, m, k1, k2, d12, l1, l2, ⟨g, o, cur, hA, hg, r1, r2, r3, r4⟩, y⟩ := h
  exact ⟨g, o, cur, hA, r1, r2, r3, r4, B, k, d, l, m, k1, k2, d12, l1, l2, hg, y⟩
theorem qsl_shut {g o : Nat} {cur : Array Value} (h1 : ys.length ≤ c) (h2 : c ≤ maxLen) (h3 : o + c * sz ≤ cur.size) (h4 : (cur.toList.drop o).take (ys.length * sz) = ys.flatMap enc) : Ent (blk g (.cells cur e (0, 0))) (qsl e enc sz (some ⟨g, o, none⟩) c ys) :=
  fun _ _ x => ⟨g, o, cur, rfl, x, h1, h2, h3, h4⟩
theorem qsl_drop [en : EncLen enc sz] (k : Nat) (hk : k ≤ ys.length) : Ent (qsl e enc sz S c ys) (qsl e enc sz (offA S c k sz) (c - k) (ys.drop k)) := by
  rintro B h ⟨g, o, cur, rfl, hg, h1, h2, h3, h4⟩
  by_cases hck : c = k
  · subst hck
    have hl : ys.length = c := by omega
    refine ⟨g, o, cur, by simp [offA], hg, by simp; omega, by omega, by rw [Nat.sub_self]; omega, ?_⟩
    rw [List.drop_of_length_le (by omega)]
    simp
  · have hm : (c - k) * sz + k * sz = c * sz := by rw [← Nat.add_mul]; congr 1; omega
    refine ⟨g, o + k * sz, cur, by simp [offA, hck, add_off], hg, by simp; omega, by omega, by omega, ?_⟩
    rw [← flat_drop, ← h4, List.drop_take, List.drop_drop, List.length_drop, Nat.sub_mul]
variable {w0 : World} {A : SProp} {L M : List SProp} {Φ : World → Prop}
theorem G.qdrop [en : EncLen enc sz] (k : Nat) (hk : k ≤ xs.length) [tk : Take1 L (qsl e enc sz S c xs) M] (h : G w0 A (qsl e enc sz (offA S c k sz) (c - k) (xs.drop k) :: M) Φ) : G w0 A L Φ :=
  G.perm tk.perm (G.ent (L := qsl e enc sz S c xs :: M) (L' := qsl e enc sz (offA S c k sz) (c - k) (xs.drop k) :: M) ((qsl_drop k hk).star (Ent.refl _)) h)
theorem G.lit_q (e : TypeId) (b : Nat) (cs : Array Value) [en : EncLen enc sz] (xs : List α) {n : Nat} (hn : xs.length = n) (hcs : cs.toList = xs.flatMap enc) (hm : xs.length ≤ maxLen) [tk : Take1 L (cellsB b cs e) M] (h : G w0 A (qsl e enc sz (some ⟨b, 0, none⟩) n xs :: M) Φ) : G w0 A L Φ := by
  subst hn
  exact G.perm tk.perm (G.ent (L := cellsB b cs e :: M) (L' := qsl e enc sz (some ⟨b, 0, none⟩) xs.length xs :: M) ((qsl_shut (Nat.le_refl _) hm (by
    have := congrArg List.length hcs
    rw [flat_len, Array.length_toList] at this
    omega) (by rw [List.drop_zero, hcs, List.take_of_length_le (by rw [flat_len]; exact Nat.le_refl _)])).star (Ent.refl _)) h)
/-- What is known of its room. -/
theorem G.qroom [tk : Take1 L (qsl e enc sz S c xs) M] (h : xs.length ≤ c → c ≤ maxLen → G w0 A (qsl e enc sz S c xs :: M) Φ) : G w0 A L Φ :=
  G.perm tk.perm fun w hw hh => by
    obtain ⟨_, _, _, _, h1, h2, _⟩ := qsl_open (hh.ent (Ent.swap _ _ _))
    exact h h1 h2 w hw hh
end
section
variable {w0 : World} {A : SProp} {L : List SProp} {ro : Option Nat} {P : Program} {Q : Exit → Act → World → Prop} {all : Array Oper} {os : List Oper} {n : Nat} {ρ : Nat → Value} {ds : List Nat}
variable {d : Option Tmp} {ty : TypeId} {pos : String} {af : Array Edge} {x y : Operand}
variable {α : Type} {enc : α → List Value} {sz : Nat} {xs ys : List α} {S : Option Addr}
theorem holds_drew {C : SProp} {w : World} (h : holds C w) : holds C w.drew := h
/-- 'append(s, t...)' at a row that is eaten from its head. -/
theorem o_appendq {t e : TypeId} {s bytes c c2 len : Nat} {tys : Array TypeId} {a : Addr} {M : List SProp} (hx : ev n ρ x = .slice S xs.length c) (hy : ev n ρ y = .slice (some a) len c2) (ht : tys = #[t, t]) [at_ : ApTy P t e s bytes] [en : EncLen enc sz] (hs : s = sz)
    [hr : HasRd L (some a) enc sz ys] (hlen : ys.length = len) (hpos : 0 < len) [tk : Take1 L (qsl e enc sz S c xs) M] (hmax : xs.length + ys.length ≤ maxLen) (hbytes : (xs.length + ys.length) * bytes ≤ 140737488355328)
    (h : ∀ S2 c3, G w0 A (qsl e enc sz S2 c3 (xs ++ ys) :: M) (fun w => runL ro P all Q os (act n (updo ρ d (.slice S2 (xs.length + ys.length) c3)) ds) w)) :
    G w0 A L (fun w => runL ro P all Q ({ dst := d, op := .call { callee := .builtin .append, args := #[x, y], argTypes := tys }, type := ty, pos := pos, after := af, guard := none } :: os) (act n ρ ds) w) := by
  subst ht hs hlen
  refine o_run rfl fun w hw hh => ?_
  refine ⟨fun _ _ => trivial, ?_⟩
  rw [Oper.semAt_eq _ _ _ (by intro c e; cases e), act_eval]
  have hh1 : holds (star (qsl e enc s S c xs) (star A (sl M))) w := (hh.ent ((Ent.refl A).star (sl_perm tk.perm))).ent (Ent.swap _ _ _)
  have hrdx : rdE S enc s xs (hp w) := (Sees.left fun _ ⟨_, _, _, _, m, x⟩ => (qsl_rd x).le m) w hh1
  obtain ⟨g, o, cur, rfl, h1, h2, h3, h4, hh2⟩ := qsl_open hh1
  have hrd := hr.sees.right w hh
  have hgw : w.heap[g]? = some (.cells cur e (0, 0)) := (Sees.left (sees_blk g _)) w hh2
  obtain ⟨i, z, ht, hi, hz, i1, i2, i3⟩ := at_.ex
  subst i1
  subst i2
  have hone : ∀ u ∈ ys.flatMap enc, u.oneCell' = true := fun u hu => by
    obtain ⟨q, _, hq⟩ := List.mem_flatMap.1 hu
    exact en.one q u hq
  have cells : ∀ (b : Addr) (zs : List α), rdE (some b) enc i.size zs (hp w) → ∀ j u, (zs.flatMap enc)[j]? = some u → w.cell? (b.add j) = some u := fun b zs hrd j u hu => by
    have hj : j < zs.length * i.size := by rw [← flat_len (enc := enc) zs]; exact (List.getElem?_eq_some_iff.1 hu).1
    have hsp : 0 < i.size := at_.pos
    have hq : j / i.size < zs.length := by rw [Nat.div_lt_iff_lt_mul hsp]; exact hj
    have hjm : j / i.size * i.size + j % i.size = j := by rw [Nat.mul_comm]; exact Nat.div_add_mod j i.size
    obtain ⟨b', k, ea, hc⟩ := hrd (j / i.size) zs[j / i.size] (List.getElem?_eq_getElem hq)
    cases ea
    have hm : j % i.size < (enc zs[j / i.size]).length := by rw [en.len]; exact Nat.mod_lt _ hsp
    have hu' := flat_get zs (j / i.size) (j % i.size) zs[j / i.size] _ (List.getElem?_eq_getElem hq) (List.getElem?_eq_getElem hm)
    rw [hjm, hu] at hu'
    have := hc (j % i.size) u (by rw [List.getElem?_eq_getElem hm]; exact hu'.symm)
    rw [hjm] at this
    rw [add_off]
    exact cell_of_cellH this
  have hnews := cells a ys hrd
  have holds' := cells ⟨g, o, none⟩ xs hrdx
  have hl : (ys.flatMap enc).length = ys.length * i.size := flat_len ys
  have hlx : (xs.flatMap enc).length = xs.length * i.size := flat_len xs
  have hfm : (xs ++ ys).flatMap enc = xs.flatMap enc ++ ys.flatMap enc := List.flatMap_append
  have hlen2 : (xs ++ ys).length * i.size = xs.length * i.size + ys.length * i.size := by rw [List.length_append, Nat.add_mul]
  by_cases hroom : xs.length + ys.length ≤ c
  · have hmul : xs.length * i.size + ys.length * i.size ≤ c * i.size := by rw [← Nat.add_mul]; exact Nat.mul_le_mul_right _ hroom
    have hfc := run_firstCells_some (P := P) w i.size ys.length a ys.length c2 (ys.flatMap enc) hl hnews
    have hst := run_storeCells_at (P := P) g (o + xs.length * i.size) e (ys.flatMap enc) 0 cur w hgw (by rw [hl]; omega) hone
    simp only [Nat.add_zero] at hst
    have hr : (Builtin.append_ #[t, t] ty #[.slice (some ⟨g, o, none⟩) xs.length c, .slice (some a) ys.length c2]).run P w = .ok (.slice (some ⟨g, o, none⟩) (xs.length + ys.length) c) (w.setRow g (cur.toList.take (o + xs.length * i.size) ++ ys.flatMap enc ++ cur.toList.drop (o + xs.length * i.size + (ys.flatMap enc).length)).toArray) := by
      simp [Builtin.append_, run_underlying ht, sizeOf, typeInfo, hi, Builtin.lenOf, hroom, hfc, Addr.add_lit, hst]
    have hex : (execOp (ev n ρ) { dst := d, op := .call { callee := .builtin .append, args := #[x, y], argTypes := #[t, t] }, type := ty, pos := pos, after := af, guard := none }).run P w = .ok (.value (.slice (some ⟨g, o, none⟩) (xs.length + ys.length) c)) (w.setRow g (cur.toList.take (o + xs.length * i.size) ++ ys.flatMap enc ++ cur.toList.drop (o + xs.length * i.size + (ys.flatMap enc).length)).toArray) := by
      simp only [execOp, resolve, List.map_toArray, List.map_cons, List.map_nil, hx, hy]
      simp [invoke, builtin, hr]
    rw [hex]
    show runL ro P all Q os ((act n ρ ds).put d _) _
    rw [act_put]
    refine h _ _ _ (hw.trans (std_setRow _ _ _)) ?_
    have hh3 := hh2.update (o' := .cells (cur.toList.take (o + xs.length * i.size) ++ ys.flatMap enc ++ cur.toList.drop (o + xs.length * i.size + (ys.flatMap enc).length)).toArray e (0, 0)) (setRow_heap w g cur _ e _ hgw) (fun j hj => hp_setRow_ne w _ hj)
    refine (hh3.ent (Ent.star (qsl_shut (by rw [List.length_append]; exact hroom) h2 ?_ ?_) (Ent.refl _))).ent (Ent.swap _ _ _)
    · simp only [List.size_toArray, List.length_append, List.length_take, List.length_drop, Array.length_toList]
      omega
    · have e1 : (cur.toList.take (o + xs.length * i.size) ++ ys.flatMap enc).drop o = xs.flatMap enc ++ ys.flatMap enc := by
        rw [List.drop_append_of_le_length (by simp only [List.length_take, Array.length_toList]; omega), List.drop_take, show o + xs.length * i.size - o = xs.length * i.size by omega, h4]
      show List.take _ (List.drop o (cur.toList.take (o + xs.length * i.size) ++ ys.flatMap enc ++ cur.toList.drop (o + xs.length * i.size + (ys.flatMap enc).length))) = _
      rw [List.drop_append_of_le_length (by simp only [List.length_append, List.length_take, Array.length_toList]; omega), e1, hfm, hlen2]
      exact List.take_left' (by rw [List.length_append, hl, hlx])
  · have hr := run_append_grow (P := P) w t ty e i z ht hi hz ⟨g, o, none⟩ xs.length c (xs.flatMap enc) hlx holds' a ys.length c2 (ys.flatMap enc) hl hnews (by omega) (by simp only [maxLen] at hmax; omega) (growslice_fits (by omega) hbytes)
    have hge := grownCap_ge w (xs.length + ys.length) c e
    have hcm : grownCap w (xs.length + ys.length) c e ≤ maxLen := grownCap_le_maxLen w (xs.length + ys.length) c e hmax
    have hex := hr
    have hex : (execOp (ev n ρ) { dst := d, op := .call { callee := .builtin .append, args := #[x, y], argTypes := #[t, t] }, type := ty, pos := pos, after := af, guard := none }).run P w = .ok (.value (.slice (some ⟨w.heap.size, 0, none⟩) (xs.length + ys.length) (grownCap w (xs.length + ys.length) c e)))
        (w.drew.alloc (.cells ((xs.flatMap enc).toArray ++ (ys.flatMap enc).toArray ++ Builtin.zeroCells z.cells (grownCap w (xs.length + ys.length) c e - (xs.length + ys.length))) e)) := by
      simp only [execOp, resolve, List.map_toArray, List.map_cons, List.map_nil, hx, hy]
      simp [invoke, builtin, hr]
    rw [hex]
    show runL ro P all Q os ((act n ρ ds).put d _) _
    rw [act_put]
    refine h _ _ _ (hw.trans ((Std.drew w).trans (.alloc _ _))) ?_
    have hh3 := (holds_drew (hh2.ent (Ent.right _ _))).alloc (.cells ((xs.flatMap enc).toArray ++ (ys.flatMap enc).toArray ++ Builtin.zeroCells z.cells (grownCap w (xs.length + ys.length) c e - (xs.length + ys.length))) e)
    refine (hh3.ent (Ent.star (qsl_shut (by rw [List.length_append]; exact hge) hcm ?_ ?_) (Ent.refl _))).ent (Ent.swap _ _ _)
    · have hm : (xs.length + ys.length) * i.size + (grownCap w (xs.length + ys.length) c e - (xs.length + ys.length)) * i.size = grownCap w (xs.length + ys.length) c e * i.size := by rw [← Nat.add_mul]; congr 1; omega
      rw [Nat.add_mul] at hm
      simp only [Array.size_append, List.size_toArray, size_zeroCells, i3, hl, hlx]
      omega
    · rw [List.drop_zero]
      simp only [Array.toList_append, hfm, hlen2]
      exact List.take_left' (by rw [List.length_append, hl, hlx])
end
end Go.Sl
/- Of each Id the Values of its elements. -/
namespace Go.Proofs.Ytonjhakjnopbjaa
open Go Go.Sl
attribute [local irreducible] Code.wpIn roundPost bodyPostM runL Ret Meets Begin

/-! ### Plain -/
def valS (k : SymD) (a : List SymD) (e : ElemD) : List SymD := if e.id.beq k then insC SymD.cmp a e.value else a
def vals (l : List ElemD) (k : SymD) : List SymD := l.foldl (valS k) []
theorem vals_same (l : List ElemD) (e : ElemD) : vals (l ++ [e]) e.id = insC SymD.cmp (vals l e.id) e.value := by
  simp [vals, List.foldl_append, valS, (SymD.beq_iff e.id e.id).2 rfl]
theorem vals_ne (l : List ElemD) (e : ElemD) {k : SymD} (h : k ≠ e.id) : vals (l ++ [e]) k = vals l k := by
  have : ¬ e.id.beq k = true := fun hb => h ((SymD.beq_iff _ _).1 hb).symm
  simp [vals, List.foldl_append, valS, this]
theorem vals_fold (k : SymD) : ∀ (l : List ElemD) (a : List SymD), (Srt SymD.cmp a → Srt SymD.cmp (l.foldl (valS k) a)) ∧ (l.foldl (valS k) a).length ≤ a.length + l.length ∧ (∀ z, hasC SymD.cmp (l.foldl (valS k) a) z = true ↔ hasC SymD.cmp a z = true ∨ ∃ e ∈ l, e.id = k ∧ e.value = z)
  | [], a => ⟨id, by simp, fun z => by simp⟩
  | e :: l, a => by
    obtain ⟨h1, h2, h3⟩ := vals_fold k l (valS k a e)
    simp only [List.foldl_cons, List.length_cons]
    by_cases hb : e.id.beq k = true
    · have hv : valS k a e = insC SymD.cmp a e.value := by simp [valS, hb]
      have hk := (SymD.beq_iff _ _).1 hb
      rw [hv] at h1 h2 h3 ⊢
      have h4 := length_insC_le (f := SymD.cmp) a e.value
      refine ⟨fun hs => h1 (hs.insC linSym _), by omega, fun z => ?_⟩
      rw [h3 z, hasC_insC linSym, Bool.or_eq_true, decide_eq_true_eq, SymD.cmp_iff]
      constructor
      · rintro ((h | h) | ⟨e', he', r⟩)
        · exact .inl h
        · exact .inr ⟨e, List.mem_cons_self, hk, h⟩
        · exact .inr ⟨e', List.mem_cons_of_mem _ he', r⟩
      · rintro (h | ⟨e', he', r1, r2⟩)
        · exact .inl (.inl h)
        · rcases List.mem_cons.1 he' with rfl | he'
          · exact .inl (.inr r2)
          · exact .inr ⟨e', he', r1, r2⟩
    · have hv : valS k a e = a := by simp [valS, hb]
      rw [hv] at h1 h2 h3 ⊢
      refine ⟨h1, by omega, fun z => ?_⟩
      rw [h3 z]
      constructor
      · rintro (h | ⟨e', he', r⟩)
        · exact .inl h
        · exact .inr ⟨e', List.mem_cons_of_mem _ he', r⟩
      · rintro (h | ⟨e', he', r1, r2⟩)
        · exact .inl h
        · rcases List.mem_cons.1 he' with rfl | he'
          · exact absurd ((SymD.beq_iff _ _).2 r1) hb
          · exact .inr ⟨e', he', r1, r2⟩
theorem vals_srt (l : List ElemD) (k : SymD) : Srt SymD.cmp (vals l k) := (vals_fold k l []).1 Srt.nil
theorem vals_len (l : List ElemD) (k : SymD) : (vals l k).length ≤ l.length := by simpa [vals] using (vals_fold k l []).2.1
theorem vals_mem (l : List ElemD) (k z : SymD) : z ∈ vals l k ↔ ∃ e ∈ l, e.id = k ∧ e.value = z := by
  have h := (vals_fold k l []).2.2 z
  have hm : z ∈ vals l k ↔ hasC SymD.cmp (vals l k) z = true := by
    unfold hasC
    rw [List.any_eq_true]
    exact ⟨fun h => ⟨z, h, by simpa using linSym.refl z⟩, fun ⟨y, hy, e⟩ => by
      have e : y.cmp z = 0 := by simpa using e
      rw [← SymD.cmp_zero e]; exact hy⟩
  rw [hm]
  unfold vals
  rw [h]
  simp [hasC]
theorem vals_none {l : List ElemD} {k : SymD} (h : ∀ e ∈ l, e.id ≠ k) : vals l k = [] := by
  rw [List.eq_nil_iff_forall_not_mem]
  intro z hz
  obtain ⟨e, he, r, _⟩ := (vals_mem l k z).1 hz
  exact h e he r
structure WayI (ys : List PgSY) (l : List ElemD) : Prop where
  srt : Srt PgSY.cmp ys
  ptr : ∀ p ∈ ys, p.v ≠ none
  has : ∀ s, hasC PgSY.cmp ys ⟨s, none⟩ = true ↔ ∃ e ∈ l, e.id = s
  len : ys.length ≤ l.length
theorem WayI.nil : WayI [] [] := ⟨Srt.nil, by simp, fun s => by simp [hasC], Nat.le_refl _⟩
theorem WayI.old {ys : List PgSY} {l : List ElemD} (h : WayI ys l) {e : ElemD} (he : hasC PgSY.cmp ys ⟨e.id, none⟩ = true) : WayI ys (l ++ [e]) :=
  ⟨h.srt, h.ptr, fun s => by
    rw [h.has s]
    constructor
    · rintro ⟨x, hx, r⟩; exact ⟨x, List.mem_append_left _ hx, r⟩
    · rintro ⟨x, hx, r⟩
      rcases List.mem_append.1 hx with hx | hx
      · exact ⟨x, hx, r⟩
      · rw [List.mem_singleton] at hx; subst hx; rw [← r]; exact (h.has _).1 he, by have := h.len; simp; omega⟩
theorem WayI.new {ys : List PgSY} {l : List ElemD} (h : WayI ys l) {e : ElemD} (b : Nat) : WayI (insC PgSY.cmp ys ⟨e.id, some b⟩) (l ++ [e]) :=
  ⟨h.srt.insC PgSY.lin _, fun p hp => by
    rcases mem_insC.1 hp with hp | ⟨_, rfl⟩
    · exact h.ptr p hp
    · simp, fun s => by
    rw [hasC_insC PgSY.lin, Bool.or_eq_true, h.has s, decide_eq_true_eq]
    constructor
    · rintro (⟨x, hx, r⟩ | r)
      · exact ⟨x, List.mem_append_left _ hx, r⟩
      · exact ⟨e, by simp, SymD.cmp_zero r⟩
    · rintro ⟨x, hx, r⟩
      rcases List.mem_append.1 hx with hx | hx
      · exact .inl ⟨x, hx, r⟩
      · rw [List.mem_singleton] at hx; subst hx; exact .inr (SymD.cmp_iff.2 r), by
    have := h.len; have := length_insC_le (f := PgSY.cmp) ys ⟨e.id, some b⟩; simp; omega⟩
theorem insC_perm {α : Type} {f : α → α → Int} {ys : List α} {x : α} (h : hasC f ys x = false) : (x :: ys).Perm (insC f ys x) := by
  unfold insC
  unfold hasC at h
  rw [if_neg (by rw [h]; simp)]
  refine List.Perm.trans ?_ List.perm_middle.symm
  rw [List.takeWhile_append_dropWhile]
/-- What a key has, and the others. -/
theorem WayI.get {ys : List PgSY} {l : List ElemD} (h : WayI ys l) {k : SymD} {p : PgSY} (hp : getM PgSY.cmp ys ⟨k, none⟩ = some p) : ∃ b zs, p = ⟨k, some b⟩ ∧ ys.Perm (⟨k, some b⟩ :: zs) ∧ ∀ q ∈ zs, q.k ≠ k := by
  obtain ⟨h1, h2⟩ := getM_mem hp
  have hk : p.k = k := SymD.cmp_zero h2
  obtain ⟨pk, pv⟩ := p
  dsimp only at hk
  subst hk
  cases pv with
  | none => exact absurd rfl (h.ptr _ h1)
  | some b =>
    obtain ⟨s, t, rfl⟩ := List.append_of_mem h1
    refine ⟨b, s ++ t, rfl, List.perm_middle, fun q hq e => ?_⟩
    have hs := h.srt
    have e0 : PgSY.cmp q ⟨pk, some b⟩ = 0 := SymD.cmp_iff.2 e
    rcases List.mem_append.1 hq with hq | hq
    · obtain ⟨i, hi⟩ := List.mem_iff_getElem?.1 hq
      have hil := (List.getElem?_eq_some_iff.1 hi).1
      have := hs i s.length q ⟨pk, some b⟩ hil (by rw [List.getElem?_append_left hil]; exact hi) (by simp)
      omega
    · obtain ⟨i, hi⟩ := List.mem_iff_getElem?.1 hq
      have := hs s.length (s.length + 1 + i) ⟨pk, some b⟩ q (by omega) (by simp) (by
        rw [List.getElem?_append_right (by omega), show s.length + 1 + i - s.length = i + 1 by omega]; simpa using hi)
      have e1 : PgSY.cmp ⟨pk, some b⟩ q = 0 := SymD.cmp_iff.2 e.symm
      omega

/-! ### In memory -/
def cellW (l : List ElemD) (p : PgSY) : SProp := SetASS (p.v.getD 0) (vals l p.k)
def WayP (m : Nat) (l : List ElemD) : SProp := ex fun ys : List PgSY => sl [pu (WayI ys l), MapASY m ys, bigS ys (cellW l)]
section
variable {w0 : World} {A : SProp} {L M : List SProp} {Φ : World → Prop}
theorem openW (m : Nat) (l : List ElemD) [tk : Take1 L (WayP m l) M] (h : ∀ ys, WayI ys l → G w0 A (MapASY m ys :: bigS ys (cellW l) :: M) Φ) : G w0 A L Φ :=
  G.perm tk.perm (G.ex fun ys => G.open_sl (G.pu fun hi => h ys hi))
theorem shutW (m : Nat) (l : List ElemD) (ys : List PgSY) (hi : WayI ys l) [tk : Take L [MapASY m ys, bigS ys (cellW l)] M] (h : G w0 A (WayP m l :: M) Φ) : G w0 A L Φ :=
  G.perm tk.perm (G.pu_in hi (G.ent (L := pu (WayI ys l) :: MapASY m ys :: bigS ys (cellW l) :: M) (L' := WayP m l :: M)
    ((sl_append_to [pu (WayI ys l), MapASY m ys, bigS ys (cellW l)] M).trans (Ent.star (show Ent _ (WayP m l) from fun _ _ x => ⟨ys, x⟩) (Ent.refl _))) h))
theorem newW (m : Nat) [tk : Take1 L (MapASY m []) M] (h : G w0 A (WayP m [] :: M) Φ) : G w0 A L Φ :=
  G.perm tk.perm (G.bnil (cellW []) (shutW m [] [] WayI.nil (tk := ⟨List.Perm.swap _ _ _⟩) h))
end
theorem cellW_ne {zs : List PgSY} {l : List ElemD} {e : ElemD} (h : ∀ q ∈ zs, q.k ≠ e.id) : bigS zs (cellW l) = bigS zs (cellW (l ++ [e])) :=
  bigS_congr fun q hq => by unfold cellW; rw [vals_ne l e (h q hq)]
set_option maxHeartbeats 1000000 in
theorem ways_spec (gf : FuncId) (lb : List Value) (xs : List ElemD) (hl : xs.length ≤ 100000) (Ks : List SProp) [En Try.prog gf] (hit : ∀ K, Iter Try.prog gf lb encVE xs (K ++ Ks)) :
    Ctr Try.prog 72 [.func (.func gf) #[] lb.toArray] Ks (fun v M => ∃ m, v = .pointer (some ⟨m, 0, none⟩) ∧ M = WayP m xs :: Ks) := by
  refine spec_of Try.func72 rfl Try.ntmps72 rfl fun w0 F => ?_
  -- ponder/reach.ways
  repeat (first | refine g_endt ?_ | refine g_end ?_ | refine g_then ?_ | refine g_in_normal ?_ | refine g_then_ret ?_ | refine g_in_ret ?_ | refine g_then_exit ?_ | refine g_in_exit rfl ?_ | refine g_in_exit_ne (by decide) ?_ | refine g_seq ?_ | refine g_region ?_ | refine g_block ?_ | refine g_ret ?_ | refine g_return_n ?_ | refine g_exit ?_ | refine g_skip ?_)
  refine o_assign ?_
  first | refine g_endt ?_ | refine g_end ?_
  repeat (first | refine g_endt ?_ | refine g_end ?_ | refine g_then ?_ | refine g_in_normal ?_ | refine g_then_ret ?_ | refine g_in_ret ?_ | refine g_then_exit ?_ | refine g_in_exit rfl ?_ | refine g_in_exit_ne (by decide) ?_ | refine g_seq ?_ | refine g_region ?_ | refine g_block ?_ | refine g_ret ?_ | refine g_return_n ?_ | refine g_exit ?_ | refine g_skip ?_)
  refine o_call (NewMSY_spec) rfl rfl ?_
  rintro _ _ ⟨m, rfl, rfl⟩
  refine o_alloc fun c => ?_
  refine o_store (v := .pointer (some ⟨m, 0, none⟩)) rfl rfl rfl rfl rfl ?_
  first | refine g_endt ?_ | refine g_end ?_
  refine G.norm c #[.pointer (some ⟨m, 0, none⟩)] rfl ?_
  repeat (first | refine g_endt ?_ | refine g_end ?_ | refine g_then ?_ | refine g_in_normal ?_ | refine g_then_ret ?_ | refine g_in_ret ?_ | refine g_then_exit ?_ | refine g_in_exit rfl ?_ | refine g_in_exit_ne (by decide) ?_ | refine g_seq ?_ | refine g_region ?_ | refine g_block ?_ | refine g_ret ?_ | refine g_return_n ?_ | refine g_exit ?_ | refine g_skip ?_)
  refine o_move ?_
  refine o_fnil rfl (fun w => by kernel_rfl) (fun w => by kernel_rfl) ?_
  first | refine g_endt ?_ | refine g_end ?_
  first | refine g_seq (g_cond_f rfl (by first | rfl | (simp; done) | (simp; omega) | (simp; assumption)) ?_) | refine g_cond_f rfl (by first | rfl | (simp; done) | (simp; omega) | (simp; assumption)) ?_
  refine newW m ?_
  repeat (first | refine g_endt ?_ | refine g_end ?_ | refine g_then ?_ | refine g_in_normal ?_ | refine g_then_ret ?_ | refine g_in_ret ?_ | refine g_then_exit ?_ | refine g_in_exit rfl ?_ | refine g_in_exit_ne (by decide) ?_ | refine g_seq ?_ | refine g_region ?_ | refine g_block ?_ | refine g_ret ?_ | refine g_return_n ?_ | refine g_exit ?_ | refine g_skip ?_)
  refine o_move ?_
  first | refine g_endt ?_ | refine g_end ?_
  repeat (first | refine g_endt ?_ | refine g_end ?_ | refine g_then ?_ | refine g_in_normal ?_ | refine g_then_ret ?_ | refine g_in_ret ?_ | refine g_then_exit ?_ | refine g_in_exit rfl ?_ | refine g_in_exit_ne (by decide) ?_ | refine g_seq ?_ | refine g_region ?_ | refine g_block ?_ | refine g_ret ?_ | refine g_return_n ?_ | refine g_exit ?_ | refine g_skip ?_)
  refine g_range (ps := [12]) (enc := encVE) (xs := xs) rfl (fun pre => WayP m pre :: cellsB c #[.pointer (some ⟨m, 0, none⟩)] 101 :: Ks) (fun _ _ => [pu False])
    (fun K => hit [K, WayP m [], cellsB c #[.pointer (some ⟨m, 0, none⟩)] 101]) (fun _ => rfl) (tk := (inferInstance : Take _ (WayP m [] :: cellsB c #[.pointer (some ⟨m, 0, none⟩)] 101 :: Ks) _)) ?_ ?_ ?_
  · intro w0 F l r pre x hp
    have hlen : pre.length < xs.length := by
      obtain ⟨t, ht⟩ := hp
      have := congrArg List.length ht
      simp at this
      omega
    have hvl := vals_len pre x.id
    have hvs := vals_srt pre x.id
    repeat (first | refine g_endt ?_ | refine g_end ?_ | refine g_then ?_ | refine g_in_normal ?_ | refine g_then_ret ?_ | refine g_in_ret ?_ | refine g_then_exit ?_ | refine g_in_exit rfl ?_ | refine g_in_exit_ne (by decide) ?_ | refine g_seq ?_ | refine g_region ?_ | refine g_block ?_ | refine g_ret ?_ | refine g_return_n ?_ | refine g_exit ?_ | refine g_skip ?_)
    refine o_alloc fun d => ?_
    refine o_store (v := x.val) rfl rfl rfl rfl rfl ?_
    first | refine g_endt ?_ | refine g_end ?_
    refine G.norm d x.val.cells rfl ?_
    repeat (first | refine g_endt ?_ | refine g_end ?_ | refine g_then ?_ | refine g_in_normal ?_ | refine g_then_ret ?_ | refine g_in_ret ?_ | refine g_then_exit ?_ | refine g_in_exit rfl ?_ | refine g_in_exit_ne (by decide) ?_ | refine g_seq ?_ | refine g_region ?_ | refine g_block ?_ | refine g_ret ?_ | refine g_return_n ?_ | refine g_exit ?_ | refine g_skip ?_)
    refine g_begin ?_
    refine openW m pre fun ys hw => ?_
    have hys := hw.len
    cases hg : getM PgSY.cmp ys ⟨x.id, none⟩ with
    | some p =>
      obtain ⟨b, zs, rfl, hperm, hne⟩ := hw.get hg
      have hh : hasC PgSY.cmp ys ⟨x.id, none⟩ = true := by rw [← getM_isSome, hg]; rfl
      repeat (first | refine g_endt ?_ | refine g_end ?_ | refine g_then ?_ | refine g_in_normal ?_ | refine g_then_ret ?_ | refine g_in_ret ?_ | refine g_then_exit ?_ | refine g_in_exit rfl ?_ | refine g_in_exit_ne (by decide) ?_ | refine g_seq ?_ | refine g_region ?_ | refine g_block ?_ | refine g_ret ?_ | refine g_return_n ?_ | refine g_exit ?_ | refine g_skip ?_)
      refine o_load1 (v := .pointer (some ⟨m, 0, none⟩)) rfl rfl ?_
      first | refine o_field rfl ?_ | refine o_fieldR rfl (by omega) ?_
      refine o_loadN (v := x.id.val) rfl rfl rfl ?_
      refine o_call (GetNMSY_spec m ys x.id hw.srt (by omega) hg) rfl rfl ?_
      rintro _ _ ⟨rfl, rfl⟩
      refine o_move ?_
      refine o_extract rfl rfl ?_
      refine o_extract rfl rfl ?_
      refine o_assign ?_
      refine o_assign ?_
      first | refine g_endt ?_ | refine g_end ?_
      repeat (first | refine g_endt ?_ | refine g_end ?_ | refine g_then ?_ | refine g_in_normal ?_ | refine g_then_ret ?_ | refine g_in_ret ?_ | refine g_then_exit ?_ | refine g_in_exit rfl ?_ | refine g_in_exit_ne (by decide) ?_ | refine g_seq ?_ | refine g_region ?_ | refine g_block ?_ | refine g_ret ?_ | refine g_return_n ?_ | refine g_exit ?_ | refine g_skip ?_)
      refine o_move ?_
      refine o_not rfl ?_
      first | refine g_endt ?_ | refine g_end ?_
      first | refine g_seq (g_cond_f rfl (by first | rfl | (simp; done) | (simp; omega) | (simp; assumption)) ?_) | refine g_cond_f rfl (by first | rfl | (simp; done) | (simp; omega) | (simp; assumption)) ?_
      refine G.bopen (f := cellW pre) ⟨x.id, some b⟩ zs hperm ?_
      change G _ _ (SetASS b (vals pre x.id) :: _) _
      repeat (first | refine g_endt ?_ | refine g_end ?_ | refine g_then ?_ | refine g_in_normal ?_ | refine g_then_ret ?_ | refine g_in_ret ?_ | refine g_then_exit ?_ | refine g_in_exit rfl ?_ | refine g_in_exit_ne (by decide) ?_ | refine g_seq ?_ | refine g_region ?_ | refine g_block ?_ | refine g_ret ?_ | refine g_return_n ?_ | refine g_exit ?_ | refine g_skip ?_)
      refine o_move ?_
      first | refine o_field rfl ?_ | refine o_fieldR rfl (by omega) ?_
      refine o_loadN (v := x.value.val) rfl rfl rfl ?_
      refine o_call (PutCSS_spec b (vals pre x.id) x.value hvs (by omega)) rfl rfl ?_
      rintro _ _ ⟨rfl, rfl⟩
      first | refine g_endt ?_ | refine g_end ?_
      rw [← vals_same, cellW_ne hne]
      refine G.bshut ys (cellW (pre ++ [x])) ⟨x.id, some b⟩ zs hperm.symm (tk := (inferInstance : Take _ [SetASS b (vals (pre ++ [x]) x.id), bigS zs (cellW (pre ++ [x]))] _)) ?_
      refine shutW m (pre ++ [x]) ys (hw.old hh) ?_
      repeat (first | refine g_endt ?_ | refine g_end ?_ | refine g_then ?_ | refine g_in_normal ?_ | refine g_then_ret ?_ | refine g_in_ret ?_ | refine g_then_exit ?_ | refine g_in_exit rfl ?_ | refine g_in_exit_ne (by decide) ?_ | refine g_seq ?_ | refine g_region ?_ | refine g_block ?_ | refine g_ret ?_ | refine g_return_n ?_ | refine g_exit ?_ | refine g_skip ?_)
      exact g_next
    | none =>
      have hh : hasC PgSY.cmp ys ⟨x.id, none⟩ = false := by rw [← getM_isSome, hg]; rfl
      have hv0 : vals pre x.id = [] := vals_none fun e he r => by
        have := (hw.has x.id).2 ⟨e, he, r⟩
        rw [hh] at this; cases this
      have hne : ∀ q ∈ ys, q.k ≠ x.id := fun q hq r => by
        have := List.any_eq_false.1 (show ys.any (fun y => decide (PgSY.cmp y ⟨x.id, none⟩ = 0)) = false from hh) q hq
        exact this (decide_eq_true (SymD.cmp_iff.2 r))
      repeat (first | refine g_endt ?_ | refine g_end ?_ | refine g_then ?_ | refine g_in_normal ?_ | refine g_then_ret ?_ | refine g_in_ret ?_ | refine g_then_exit ?_ | refine g_in_exit rfl ?_ | refine g_in_exit_ne (by decide) ?_ | refine g_seq ?_ | refine g_region ?_ | refine g_block ?_ | refine g_ret ?_ | refine g_return_n ?_ | refine g_exit ?_ | refine g_skip ?_)
      refine o_load1 (v := .pointer (some ⟨m, 0, none⟩)) rfl rfl ?_
      first | refine o_field rfl ?_ | refine o_fieldR rfl (by omega) ?_
      refine o_loadN (v := x.id.val) rfl rfl rfl ?_
      refine o_call (GetNMSY_spec m ys x.id hw.srt (by omega) hg) rfl rfl ?_
      rintro _ _ ⟨rfl, rfl⟩
      refine o_move ?_
      refine o_extract rfl rfl ?_
      refine o_extract rfl rfl ?_
      refine o_assign ?_
      refine o_assign ?_
      first | refine g_endt ?_ | refine g_end ?_
      repeat (first | refine g_endt ?_ | refine g_end ?_ | refine g_then ?_ | refine g_in_normal ?_ | refine g_then_ret ?_ | refine g_in_ret ?_ | refine g_then_exit ?_ | refine g_in_exit rfl ?_ | refine g_in_exit_ne (by decide) ?_ | refine g_seq ?_ | refine g_region ?_ | refine g_block ?_ | refine g_ret ?_ | refine g_return_n ?_ | refine g_exit ?_ | refine g_skip ?_)
      refine o_move ?_
      refine o_not rfl ?_
      first | refine g_endt ?_ | refine g_end ?_
      first | refine g_seq (g_cond_t rfl (by first | rfl | (simp; done) | (simp; omega) | (simp; assumption)) ?_) | refine g_cond_t rfl (by first | rfl | (simp; done) | (simp; omega) | (simp; assumption)) ?_
      repeat (first | refine g_endt ?_ | refine g_end ?_ | refine g_then ?_ | refine g_in_normal ?_ | refine g_then_ret ?_ | refine g_in_ret ?_ | refine g_then_exit ?_ | refine g_in_exit rfl ?_ | refine g_in_exit_ne (by decide) ?_ | refine g_seq ?_ | refine g_region ?_ | refine g_block ?_ | refine g_ret ?_ | refine g_return_n ?_ | refine g_exit ?_ | refine g_skip ?_)
      refine o_call (NewSS_spec) rfl rfl ?_
      rintro _ _ ⟨b, rfl, rfl⟩
      refine o_assign ?_
      first | refine g_endt ?_ | refine g_end ?_
      repeat (first | refine g_endt ?_ | refine g_end ?_ | refine g_then ?_ | refine g_in_normal ?_ | refine g_then_ret ?_ | refine g_in_ret ?_ | refine g_then_exit ?_ | refine g_in_exit rfl ?_ | refine g_in_exit_ne (by decide) ?_ | refine g_seq ?_ | refine g_region ?_ | refine g_block ?_ | refine g_ret ?_ | refine g_return_n ?_ | refine g_exit ?_ | refine g_skip ?_)
      refine o_load1 (v := .pointer (some ⟨m, 0, none⟩)) rfl rfl ?_
      first | refine o_field rfl ?_ | refine o_fieldR rfl (by omega) ?_
      refine o_loadN (v := x.id.val) rfl rfl rfl ?_
      refine o_move ?_
      refine o_call (PutNMSY_spec m ys x.id (some b) hw.srt (by omega) hh) rfl rfl ?_
      rintro _ _ ⟨rfl, rfl⟩
      first | refine g_endt ?_ | refine g_end ?_
      repeat (first | refine g_endt ?_ | refine g_end ?_ | refine g_then ?_ | refine g_in_normal ?_ | refine g_then_ret ?_ | refine g_in_ret ?_ | refine g_then_exit ?_ | refine g_in_exit rfl ?_ | refine g_in_exit_ne (by decide) ?_ | refine g_seq ?_ | refine g_region ?_ | refine g_block ?_ | refine g_ret ?_ | refine g_return_n ?_ | refine g_exit ?_ | refine g_skip ?_)
      refine o_move ?_
      first | refine o_field rfl ?_ | refine o_fieldR rfl (by omega) ?_
      refine o_loadN (v := x.value.val) rfl rfl rfl ?_
      refine o_call (PutCSS_spec b [] x.value Srt.nil (by simp)) rfl rfl ?_
      rintro _ _ ⟨rfl, rfl⟩
      first | refine g_endt ?_ | refine g_end ?_
      rw [show insC SymD.cmp [] x.value = vals (pre ++ [x]) x.id by rw [vals_same, hv0], cellW_ne hne]
      refine G.bshut (insC PgSY.cmp ys ⟨x.id, some b⟩) (cellW (pre ++ [x])) ⟨x.id, some b⟩ ys (insC_perm hh) (tk := (inferInstance : Take _ [SetASS b (vals (pre ++ [x]) x.id), bigS ys (cellW (pre ++ [x]))] _)) ?_
      refine shutW m (pre ++ [x]) (insC PgSY.cmp ys ⟨x.id, some b⟩) (hw.new b) ?_
      repeat (first | refine g_endt ?_ | refine g_end ?_ | refine g_then ?_ | refine g_in_normal ?_ | refine g_then_ret ?_ | refine g_in_ret ?_ | refine g_then_exit ?_ | refine g_in_exit rfl ?_ | refine g_in_exit_ne (by decide) ?_ | refine g_seq ?_ | refine g_region ?_ | refine g_block ?_ | refine g_ret ?_ | refine g_return_n ?_ | refine g_exit ?_ | refine g_skip ?_)
      exact g_next
  · intro D
    repeat (first | refine g_endt ?_ | refine g_end ?_ | refine g_then ?_ | refine g_in_normal ?_ | refine g_then_ret ?_ | refine g_in_ret ?_ | refine g_then_exit ?_ | refine g_in_exit rfl ?_ | refine g_in_exit_ne (by decide) ?_ | refine g_seq ?_ | refine g_region ?_ | refine g_block ?_ | refine g_ret ?_ | refine g_return_n ?_ | refine g_exit ?_ | refine g_skip ?_)
    refine o_load1 (v := .pointer (some ⟨m, 0, none⟩)) rfl rfl ?_
    refine o_assign ?_
    first | refine g_endt ?_ | refine g_end ?_
    repeat (first | refine g_endt ?_ | refine g_end ?_ | refine g_then ?_ | refine g_in_normal ?_ | refine g_then_ret ?_ | refine g_in_ret ?_ | refine g_then_exit ?_ | refine g_in_exit rfl ?_ | refine g_in_exit_ne (by decide) ?_ | refine g_seq ?_ | refine g_region ?_ | refine g_block ?_ | refine g_ret ?_ | refine g_return_n ?_ | refine g_exit ?_ | refine g_skip ?_)
    exact ret1 (K := WayP m xs :: Ks) rfl (resT rfl) ⟨m, rfl, rfl⟩
  · intro D c pre hp
    exact G.pu fun h => h.elim
end Go.Proofs.Ytonjhakjnopbjaa
/- Pages of an ordered map, for one type of keys and one of values. -/
namespace Go.Proofs.Ytonjhakjnopbjaa
open Go Go.Sl
attribute [local irreducible] Code.wpIn roundPost bodyPostM runL Ret Meets Begin

structure PgSI where
  k : SymD
  v : Int
def PgSI.vval (v : Int) : Value := .int .i64 v
def PgSI.val (p : PgSI) : Value := .agg #[.int .i64 p.k.kind, .string p.k.text, .int .i64 p.k.n, PgSI.vval p.v]
def PgSI.enc (p : PgSI) : List Value := p.val.cells.toList
/-- As an argument of a call: one value. -/
def PgSI.enc' (p : PgSI) : List Value := [p.val]
instance : EncLen PgSI.enc 4 := ⟨fun _ => rfl, fun e u h => by simp [PgSI.enc, PgSI.val, Value.cells] at h; rcases h with h | h | h | h <;> subst h <;> rfl⟩
def PgSI.cmp (a b : PgSI) : Int := a.k.cmp b.k
theorem PgSI.lin : LinCmp PgSI.cmp := linSym.pull PgSI.k
def PgSI.enc2 (p : PgSI) : List Value := [p.k.val, PgSI.vval p.v]
def PgSI.zero : PgSI := ⟨⟨0, ByteArray.empty, 0⟩, 0⟩
theorem PgSI.cmp_spec (a b : PgSI) : Ctr Try.prog 133 [a.val, b.val] [] (fun v M => v = .int .i64 (a.cmp b) ∧ M = []) := by
  refine spec_of Try.func133 rfl Try.ntmps133 rfl fun w0 F => ?_
  repeat (first | refine g_endt ?_ | refine g_end ?_ | refine g_then ?_ | refine g_in_normal ?_ | refine g_then_ret ?_ | refine g_in_ret ?_ | refine g_then_exit ?_ | refine g_in_exit rfl ?_ | refine g_in_exit_ne (by decide) ?_ | refine g_seq ?_ | refine g_region ?_ | refine g_block ?_ | refine g_ret ?_ | refine g_return_n ?_ | refine g_exit ?_ | refine g_skip ?_)
  refine o_boxc a.val.cells rfl rfl fun p => ?_
  refine o_boxc b.val.cells rfl rfl fun q => ?_
  refine o_assign ?_
  first | refine g_endt ?_ | refine g_end ?_
  repeat (first | refine g_endt ?_ | refine g_end ?_ | refine g_then ?_ | refine g_in_normal ?_ | refine g_then_ret ?_ | refine g_in_ret ?_ | refine g_then_exit ?_ | refine g_in_exit rfl ?_ | refine g_in_exit_ne (by decide) ?_ | refine g_seq ?_ | refine g_region ?_ | refine g_block ?_ | refine g_ret ?_ | refine g_return_n ?_ | refine g_exit ?_ | refine g_skip ?_)
  refine o_field rfl ?_
  refine o_loadN (v := a.k.val) rfl rfl rfl ?_
  refine o_iface rfl (fun w => by kernel_rfl) ?_
  refine o_field rfl ?_
  refine o_loadN (v := b.k.val) rfl rfl rfl ?_
  refine o_invoke (CompareSym_spec a.k b.k) rfl rfl (fun w => by kernel_rfl) ?_
  rintro _ _ ⟨rfl, rfl⟩
  refine o_assign ?_
  first | refine g_endt ?_ | refine g_end ?_
  repeat (first | refine g_endt ?_ | refine g_end ?_ | refine g_then ?_ | refine g_in_normal ?_ | refine g_then_ret ?_ | refine g_in_ret ?_ | refine g_then_exit ?_ | refine g_in_exit rfl ?_ | refine g_in_exit_ne (by decide) ?_ | refine g_seq ?_ | refine g_region ?_ | refine g_block ?_ | refine g_ret ?_ | refine g_return_n ?_ | refine g_exit ?_ | refine g_skip ?_)
  exact ret1 rfl (resT (v := .int .i64 (a.cmp b)) rfl) ⟨rfl, rfl⟩
end Go.Proofs.Ytonjhakjnopbjaa
/- Tables of levels: pages in order, and a plain list. Plain law, no program in sight. -/
namespace Go.Proofs.Ytonjhakjnopbjaa
open Go Go.Sl

structure LvD where
  s : SymD
  n : Int
def LvD.val (p : LvD) : Value := .agg #[.int .i64 p.s.kind, .string p.s.text, .int .i64 p.s.n, .int .i64 p.n]
def encL (p : LvD) : List Value := p.val.cells.toList
instance : EncLen encL 4 := ⟨fun _ => rfl, fun e u h => by simp [encL, LvD.val, Value.cells] at h; rcases h with h | h | h | h <;> subst h <;> rfl⟩
def ofL (l : List LvD) (s : SymD) : Int := ((l.find? fun p => p.s.beq s).map (·.n)).getD 0
def lvl (ys : List PgSI) (s : SymD) : Int := ((getM PgSI.cmp ys ⟨s, 0⟩).getD PgSI.zero).v
structure TabL (out : List LvD) (f : SymD → Int) : Prop where
  nd : out.Pairwise fun p q => p.s ≠ q.s
  own : ∀ p ∈ out, p.n ≠ 0 ∧ f p.s = p.n
  all : ∀ s, ofL out s = f s
structure TabP (ys : List PgSI) (f : SymD → Int) : Prop where
  srt : Srt PgSI.cmp ys
  nz : ∀ p ∈ ys, p.v ≠ 0
  all : ∀ s, lvl ys s = f s
theorem SymD.beq_cmp (a b : SymD) : a.beq b = decide (a.cmp b = 0) := by
  rw [Bool.eq_iff_iff, SymD.beq_iff, decide_eq_true_eq, SymD.cmp_iff]
theorem TabL.nil : TabL [] (fun _ => 0) := ⟨List.Pairwise.nil, by simp, fun _ => rfl⟩
theorem TabL.snoc {out : List LvD} {f : SymD → Int} (h : TabL out f) {v : SymD} (hv : f v = 0) {n : Int} (hn : n ≠ 0) : TabL (out ++ [⟨v, n⟩]) (updF f v n) := by
  have hne : ∀ p ∈ out, p.s ≠ v := fun p hp e => by have := h.own p hp; rw [e, hv] at this; exact this.1 this.2.symm
  refine ⟨List.pairwise_append.2 ⟨h.nd, List.pairwise_singleton _ _, fun p hp q hq => ?_⟩, fun p hp => ?_, fun s => ?_⟩
  · rw [List.mem_singleton] at hq; subst hq; exact hne p hp
  · rcases List.mem_append.1 hp with hp | hp
    · rw [updF_ne f _ (hne p hp)]; exact h.own p hp
    · rw [List.mem_singleton] at hp; subst hp; exact ⟨hn, updF_same f v n⟩
  · by_cases e : s = v
    · subst e
      rw [updF_same]
      unfold ofL
      rw [List.find?_append, List.find?_eq_none.2 (fun p hp => by rw [SymD.beq_iff]; exact hne p hp)]
      simp [(SymD.beq_iff s s).2 rfl]
    · rw [updF_ne f _ e, ← h.all s]
      unfold ofL
      have : ¬ v.beq s = true := fun h => e ((SymD.beq_iff _ _).1 h).symm
      rw [List.find?_append]
      simp [this]
theorem TabL.has {out : List LvD} {f : SymD → Int} (h : TabL out f) (s : SymD) : f s ≠ 0 ↔ ∃ p ∈ out, p.s = s := by
  constructor
  · intro hs
    rw [← h.all s] at hs
    unfold ofL at hs
    cases hf : out.find? fun p => p.s.beq s with
    | none => rw [hf] at hs; exact absurd rfl hs
    | some p => exact ⟨p, List.mem_of_find?_eq_some hf, (SymD.beq_iff _ _).1 (by simpa using List.find?_some hf)⟩
  · rintro ⟨p, hp, rfl⟩
    have := h.own p hp
    rw [this.2]; exact this.1
theorem TabP.nil : TabP [] (fun _ => 0) := ⟨Srt.nil, by simp, fun _ => rfl⟩
theorem TabP.has {ys : List PgSI} {f : SymD → Int} (h : TabP ys f) (s : SymD) (m : Int) : (hasC PgSI.cmp ys ⟨s, m⟩ = true ↔ f s ≠ 0) := by
  have e : hasC PgSI.cmp ys ⟨s, m⟩ = hasC PgSI.cmp ys ⟨s, 0⟩ := rfl
  rw [e, ← h.all s, ← getM_isSome]
  unfold lvl
  cases hg : getM PgSI.cmp ys ⟨s, 0⟩ with
  | none => simp [PgSI.zero]
  | some p => simpa using h.nz p (getM_mem hg).1
theorem TabP.mem {ys : List PgSI} {f : SymD → Int} (h : TabP ys f) {p : PgSI} (hp : p ∈ ys) : f p.k = p.v := by
  rw [← h.all]
  unfold lvl
  rw [getM_of PgSI.lin h.srt (x := ⟨p.k, 0⟩) hp (linSym.refl _)]
  rfl
theorem TabP.ins {ys : List PgSI} {f : SymD → Int} (h : TabP ys f) {v : SymD} (hv : f v = 0) {n : Int} (hn : n ≠ 0) : TabP (insC PgSI.cmp ys ⟨v, n⟩) (updF f v n) := by
  have hno : hasC PgSI.cmp ys ⟨v, n⟩ = false := by
    rw [← Bool.not_eq_true, h.has v n]; exact fun e => e hv
  have hs := h.srt.insC PgSI.lin ⟨v, n⟩
  refine ⟨hs, fun p hp => ?_, fun s => ?_⟩
  · rcases mem_insC.1 hp with hp | ⟨_, rfl⟩
    · exact h.nz p hp
    · exact hn
  · by_cases e : s = v
    · subst e
      rw [updF_same]
      unfold lvl
      rw [getM_of PgSI.lin hs (x := ⟨s, 0⟩) (y := ⟨s, n⟩) (mem_insC.2 (.inr ⟨hno, rfl⟩)) (linSym.refl _)]
      rfl
    · rw [updF_ne f _ e, ← h.all s]
      unfold lvl
      cases hg : getM PgSI.cmp ys ⟨s, 0⟩ with
      | none =>
        have : getM PgSI.cmp (insC PgSI.cmp ys ⟨v, n⟩) ⟨s, 0⟩ = none := by
          cases hg2 : getM PgSI.cmp (insC PgSI.cmp ys ⟨v, n⟩) ⟨s, 0⟩ with
          | none => rfl
          | some p =>
            obtain ⟨h1, h2⟩ := getM_mem hg2
            rcases mem_insC.1 h1 with h1 | ⟨_, rfl⟩
            · rw [getM_of PgSI.lin h.srt h1 h2] at hg; cases hg
            · exact absurd (SymD.cmp_zero h2).symm e
        rw [this]
      | some p =>
        obtain ⟨h1, h2⟩ := getM_mem hg
        rw [getM_of PgSI.lin hs (mem_insC.2 (.inl h1)) h2]
theorem insC_keys (ys : List PgSI) (v : SymD) (n : Int) : (insC PgSI.cmp ys ⟨v, n⟩).map PgSI.k = insC SymD.cmp (ys.map PgSI.k) v := by
  unfold insC
  rw [List.any_map]
  have e1 : ((fun y => decide (SymD.cmp y v = 0)) ∘ PgSI.k) = fun y => decide (PgSI.cmp y ⟨v, n⟩ = 0) := rfl
  rw [e1]
  split
  · rfl
  · rw [List.map_append, List.map_cons, List.takeWhile_map, List.dropWhile_map]
    rfl
theorem TabP.has_keys {ys : List PgSI} {f : SymD → Int} (h : TabP ys f) (s : SymD) : hasC SymD.cmp (ys.map PgSI.k) s = decide (f s ≠ 0) := by
  rw [Bool.eq_iff_iff, decide_eq_true_eq, ← h.has s 0]
  unfold hasC
  rw [List.any_map]
  rfl
/-- What both tables tell in order. -/
theorem tabs_keys {ys : List PgSI} {out : List LvD} {f : SymD → Int} (h : TabP ys f) (k : TabL out f) : (out.map LvD.s).foldl (insC SymD.cmp) [] = ys.map PgSI.k := by
  have hs1 : ∀ (l a : List SymD), Srt SymD.cmp a → Srt SymD.cmp (l.foldl (insC SymD.cmp) a) := fun l => by
    induction l with
    | nil => exact fun a h => h
    | cons x l ih => exact fun a h => ih _ (h.insC linSym x)
  have hs2 : Srt SymD.cmp (ys.map PgSI.k) := fun i j a b hij ha hb => by
    rw [List.getElem?_map] at ha hb
    cases hi : ys[i]? with
    | none => rw [hi] at ha; cases ha
    | some p =>
      cases hj : ys[j]? with
      | none => rw [hj] at hb; cases hb
      | some q =>
        rw [hi] at ha; rw [hj] at hb
        cases ha; cases hb
        exact h.srt i j p q hij hi hj
  have hm : ∀ (l : List SymD) (z : SymD), Srt SymD.cmp l → (z ∈ l ↔ hasC SymD.cmp l z = true) := fun l z _ => by
    unfold hasC
    rw [List.any_eq_true]
    refine ⟨fun h => ⟨z, h, by simpa using linSym.refl z⟩, fun ⟨y, hy, e⟩ => ?_⟩
    have e : y.cmp z = 0 := by simpa using e
    rw [← SymD.cmp_zero e]
    exact hy
  refine Srt.ext linSym (hs1 _ _ Srt.nil) hs2 fun z => ?_
  rw [hm _ z (hs1 _ _ Srt.nil), hm _ z hs2, hasC_fold linSym, h.has_keys z, decide_eq_true_eq, k.has z]
  unfold hasC
  rw [Bool.or_eq_true, List.any_eq_true, List.any_eq_true]
  constructor
  · rintro (⟨y, hy, _⟩ | ⟨y, hy, e⟩)
    · simp at hy
    · obtain ⟨p, hp, rfl⟩ := List.mem_map.1 hy
      exact ⟨p, hp, SymD.cmp_zero (by simpa using e)⟩
  · rintro ⟨p, hp, rfl⟩
    exact .inr ⟨p.s, List.mem_map.2 ⟨p, hp, rfl⟩, by simpa using linSym.refl p.s⟩
theorem tabs_vals {ys : List PgSI} {out : List LvD} {f : SymD → Int} (h : TabP ys f) (k : TabL out f) : (ys.map PgSI.k).map (ofL out) = ys.map PgSI.v := by
  rw [List.map_map]
  refine List.map_congr_left fun p hp => ?_
  show ofL out p.k = p.v
  rw [k.all, h.mem hp]
end Go.Proofs.Ytonjhakjnopbjaa
/- An ordered set's functions, for one type of members: find, own. -/
namespace Go.Proofs.Ytonjhakjnopbjaa
open Go Go.Sl
attribute [local irreducible] Code.wpIn roundPost bodyPostM runL Ret Meets Begin

abbrev SetASI (p : Nat) (ys : List PgSI) : SProp := SetP 137 111 PgSI.enc 4 p ys
section
variable {w0 : World} {A : SProp} {L M : List SProp} {Φ : World → Prop}
theorem openSI (p : Nat) (ys : List PgSI) [tk : Take1 L (SetASI p ys) M] (h : ∀ S c b, G w0 A (cellsB p #[.slice S ys.length c, .bool b] 137 :: row 111 PgSI.enc 4 b S c ys :: M) Φ) : G w0 A L Φ := SetP.open h
theorem shutSI (p : Nat) (ys : List PgSI) (S : Option Addr) (c : Nat) (b : Bool) {len : Nat} (hl : ys.length = len) [tk : Take L [cellsB p #[.slice S len c, .bool b] 137, row 111 PgSI.enc 4 b S c ys] M] (h : G w0 A (SetASI p ys :: M) Φ) : G w0 A L Φ := SetP.shut (S := S) (c := c) (b := b) hl h
theorem shutFSI (p : Nat) (ys : List PgSI) (S : Option Addr) (c : Nat) {len : Nat} (hl : ys.length = len) [tk : Take L [cellsB p #[.slice S len c, .bool false] 137, osl 111 PgSI.enc 4 S c ys] M] (h : G w0 A (SetASI p ys :: M) Φ) : G w0 A L Φ := SetP.shut (S := S) (c := c) (b := false) hl (tk := tk) h
theorem shutTSI (p : Nat) (ys : List PgSI) (S : Option Addr) (c : Nat) {len : Nat} (hl : ys.length = len) [tk : Take L [cellsB p #[.slice S len c, .bool true] 137, psl PgSI.enc 4 S ys] M] (h : G w0 A (SetASI p ys :: M) Φ) : G w0 A L Φ := SetP.shut (S := S) (c := c) (b := true) hl (tk := tk) h
end
theorem findSI_spec (p : Nat) (ys : List PgSI) (x : PgSI) (hs : Srt PgSI.cmp ys) (hl : ys.length ≤ 1000000000) : Ctr Try.prog 94 [.pointer (some ⟨p, 0, none⟩), x.val] [SetASI p ys]
    (fun v M => ∃ (k : Nat) (there : Bool), v = .tuple #[.int .i64 (k : Int), .bool there] ∧ M = [SetASI p ys] ∧ FindR PgSI.cmp ys x k there) := by
  refine spec_of Try.func94 rfl Try.ntmps94 rfl fun w0 F => ?_
  repeat (first | refine g_endt ?_ | refine g_end ?_ | refine g_then ?_ | refine g_in_normal ?_ | refine g_then_ret ?_ | refine g_in_ret ?_ | refine g_then_exit ?_ | refine g_in_exit rfl ?_ | refine g_in_exit_ne (by decide) ?_ | refine g_seq ?_ | refine g_region ?_ | refine g_block ?_ | refine g_ret ?_ | refine g_return_n ?_ | refine g_exit ?_ | refine g_skip ?_)
  refine openSI p ys fun S c b => ?_
  refine o_boxc x.val.cells rfl rfl fun q => ?_
  refine o_assign ?_
  refine o_assign ?_
  first | refine g_endt ?_ | refine g_end ?_
  repeat (first | refine g_endt ?_ | refine g_end ?_ | refine g_then ?_ | refine g_in_normal ?_ | refine g_then_ret ?_ | refine g_in_ret ?_ | refine g_then_exit ?_ | refine g_in_exit rfl ?_ | refine g_in_exit_ne (by decide) ?_ | refine g_seq ?_ | refine g_region ?_ | refine g_block ?_ | refine g_ret ?_ | refine g_return_n ?_ | refine g_exit ?_ | refine g_skip ?_)
  refine g_draw [] [0,1,2,3,4,5,6] [cellsB p #[.slice S ys.length c, .bool b] 137] mixed rfl ?_
  refine ob_q rfl rfl ⟨_, fun X Q h => o_move (g_end (h _ _ ⟨rfl, rfl⟩)), ?_⟩
  refine ob_q rfl rfl ⟨_, fun X Q h => o_nil rfl (g_end (h _ _ ⟨rfl, rfl⟩)), ?_⟩
  refine ob_q rfl rfl ⟨_, fun X Q h => o_field rfl (g_end (h _ _ ⟨rfl, rfl⟩)), ?_⟩
  refine ob_q rfl rfl ⟨_, fun X Q h => o_load1 rfl rfl (g_end (h _ _ ⟨rfl, rfl⟩)), ?_⟩
  refine ob_q rfl rfl ⟨_, fun X Q h => o_len rfl rfl (g_end (h _ _ ⟨rfl, rfl⟩)), ?_⟩
  refine ob_q rfl rfl ⟨_, fun X Q h => o_assign (g_end (h _ _ ⟨rfl, rfl⟩)), ?_⟩
  refine ob_q rfl rfl ⟨_, fun X Q h => o_assign (g_end (h _ _ ⟨rfl, rfl⟩)), ?_⟩
  refine ob_nil ?_
  repeat (first | refine g_endt ?_ | refine g_end ?_ | refine g_then ?_ | refine g_in_normal ?_ | refine g_then_ret ?_ | refine g_in_ret ?_ | refine g_then_exit ?_ | refine g_in_exit rfl ?_ | refine g_in_exit_ne (by decide) ?_ | refine g_seq ?_ | refine g_region ?_ | refine g_block ?_ | refine g_ret ?_ | refine g_return_n ?_ | refine g_exit ?_ | refine g_skip ?_)
  refine g_loop (σ := {s : Nat × Nat // s.1 ≤ s.2 ∧ s.2 ≤ ys.length ∧ (∀ (j : Nat) (y : PgSI), j < s.1 → ys[j]? = some y → PgSI.cmp y x < 0) ∧ ∀ (j : Nat) (y : PgSI), s.2 ≤ j → ys[j]? = some y → 0 < PgSI.cmp y x})
    (S := fun s => [(0, .pointer (some ⟨p, 0, none⟩)), (3, .pointer (some ⟨q, 0, none⟩)), (6, .int .i64 (s.1.1 : Int)), (7, .int .i64 (s.1.2 : Int))])
    (H := fun _ => [cellsB p #[.slice S ys.length c, .bool b] 137, row 111 PgSI.enc 4 b S c ys, cellsB q x.val.cells 111]) (μ := fun s => s.1.2 - s.1.1)
    (s0 := ⟨(0, ys.length), Nat.zero_le _, Nat.le_refl _, fun j y h => absurd h (Nat.not_lt_zero j), fun j y h e => by rw [List.getElem?_eq_none h] at e; cases e⟩) (Sat.mem ⟨rfl, rfl, rfl, rfl, trivial⟩) ?_
  rintro ⟨⟨lo, hi⟩, h1, h2, h3, h4⟩ ρ'
  dsimp only at h1 h2 h3 h4 ⊢
  repeat (first | refine g_endt ?_ | refine g_end ?_ | refine g_then ?_ | refine g_in_normal ?_ | refine g_then_ret ?_ | refine g_in_ret ?_ | refine g_then_exit ?_ | refine g_in_exit rfl ?_ | refine g_in_exit_ne (by decide) ?_ | refine g_seq ?_ | refine g_region ?_ | refine g_block ?_ | refine g_ret ?_ | refine g_return_n ?_ | refine g_exit ?_ | refine g_skip ?_)
  refine o_move ?_
  refine o_move ?_
  refine o_lss rfl rfl ?_
  first | refine g_endt ?_ | refine g_end ?_
  by_cases h : lo < hi
  · first | refine g_seq (g_cond_t rfl (by simpa using h) ?_) | refine g_cond_t rfl (by simpa using h) ?_
    repeat (first | refine g_endt ?_ | refine g_end ?_ | refine g_then ?_ | refine g_in_normal ?_ | refine g_then_ret ?_ | refine g_in_ret ?_ | refine g_then_exit ?_ | refine g_in_exit rfl ?_ | refine g_in_exit_ne (by decide) ?_ | refine g_seq ?_ | refine g_region ?_ | refine g_block ?_ | refine g_ret ?_ | refine g_return_n ?_ | refine g_exit ?_ | refine g_skip ?_)
    refine o_move ?_
    refine o_move ?_
    refine o_move ?_
    refine o_sub (c := ((hi - lo : Nat) : Int)) rfl rfl (by omega) (by omega) (by omega) ?_
    refine o_quo (c := (((hi - lo) / 2 : Nat) : Int)) rfl rfl (by decide) (by rw [Int.tdiv_eq_ediv_of_nonneg (by omega)]; omega) (by omega) (by omega) ?_
    refine o_add (c := ((lo + (hi - lo) / 2 : Nat) : Int)) rfl rfl (by omega) (by omega) (by omega) ?_
    generalize hmid : lo + (hi - lo) / 2 = mid
    have hm1 : lo ≤ mid := by omega
    have hm2 : mid < hi := by omega
    have hm3 : mid < ys.length := by omega
    obtain ⟨y, hy⟩ : ∃ y, ys[mid]? = some y := ⟨_, List.getElem?_eq_getElem hm3⟩
    refine o_assign ?_
    refine g_endt ?_
    repeat (first | refine g_endt ?_ | refine g_end ?_ | refine g_then ?_ | refine g_in_normal ?_ | refine g_then_ret ?_ | refine g_in_ret ?_ | refine g_then_exit ?_ | refine g_in_exit rfl ?_ | refine g_in_exit_ne (by decide) ?_ | refine g_seq ?_ | refine g_region ?_ | refine g_block ?_ | refine g_ret ?_ | refine g_return_n ?_ | refine g_exit ?_ | refine g_skip ?_)
    refine g_draw [] [0,1,2,3,4,5,6,7,8,9,10] [cellsB p #[.slice S ys.length c, .bool b] 137, row 111 PgSI.enc 4 b S c ys, cellsB q x.val.cells 111] mixed rfl ?_
    refine ob_q rfl rfl ⟨_, fun X Q h => o_move (g_end (h _ _ ⟨rfl, rfl⟩)), ?_⟩
    refine ob_q rfl rfl ⟨_, fun X Q h => o_nil rfl (g_end (h _ _ ⟨rfl, rfl⟩)), ?_⟩
    refine ob_q rfl rfl ⟨_, fun X Q h => o_field rfl (g_end (h _ _ ⟨rfl, rfl⟩)), ?_⟩
    refine ob_q rfl rfl ⟨_, fun X Q h => o_load1 (v := .slice S ys.length c) rfl rfl (g_end (h _ _ ⟨rfl, rfl⟩)), ?_⟩
    refine ob_q rfl rfl ⟨_, fun X Q h => o_move (g_end (h _ _ ⟨rfl, rfl⟩)), ?_⟩
    refine ob_q rfl rfl ⟨_, fun X Q h => o_indexR (ys := ys) (i := mid) rfl rfl rfl hm3 rfl rfl (g_end (h _ _ ⟨rfl, rfl⟩)), ?_⟩
    refine ob_q rfl rfl ⟨_, fun X Q h => o_loadE (ys := ys) rfl rfl hy (g_end (h _ _ ⟨rfl, rfl⟩)), ?_⟩
    refine ob_q rfl rfl ⟨_, fun X Q h => o_iface (u := y.val) rfl (fun w => by kernel_rfl) (g_end (h _ _ ⟨rfl, rfl⟩)), ?_⟩
    refine ob_q rfl rfl ⟨_, fun X Q h => o_loadN (v := x.val) rfl rfl rfl (g_end (h _ _ ⟨rfl, rfl⟩)), ?_⟩
    refine ob_q rfl rfl ⟨_, fun X Q h => o_invoke (PgSI.cmp_spec y x) rfl rfl (fun w => by kernel_rfl) <| by rintro _ _ ⟨rfl, rfl⟩; exact (g_end (h _ _ ⟨rfl, rfl⟩)), ?_⟩
    refine ob_q rfl rfl ⟨_, fun X Q h => o_assign (g_end (h _ _ ⟨rfl, rfl⟩)), ?_⟩
    refine ob_nil ?_
    repeat (first | refine g_endt ?_ | refine g_end ?_ | refine g_then ?_ | refine g_in_normal ?_ | refine g_then_ret ?_ | refine g_in_ret ?_ | refine g_then_exit ?_ | refine g_in_exit rfl ?_ | refine g_in_exit_ne (by decide) ?_ | refine g_seq ?_ | refine g_region ?_ | refine g_block ?_ | refine g_ret ?_ | refine g_return_n ?_ | refine g_exit ?_ | refine g_skip ?_)
    refine o_move ?_
    refine o_eql rfl rfl ?_
    first | refine g_endt ?_ | refine g_end ?_
    by_cases hc : PgSI.cmp y x = 0
    · first | refine g_seq (g_cond_t rfl (by simpa using hc) ?_) | refine g_cond_t rfl (by simpa using hc) ?_
      repeat (first | refine g_endt ?_ | refine g_end ?_ | refine g_then ?_ | refine g_in_normal ?_ | refine g_then_ret ?_ | refine g_in_ret ?_ | refine g_then_exit ?_ | refine g_in_exit rfl ?_ | refine g_in_exit_ne (by decide) ?_ | refine g_seq ?_ | refine g_region ?_ | refine g_block ?_ | refine g_ret ?_ | refine g_return_n ?_ | refine g_exit ?_ | refine g_skip ?_)
      refine o_move ?_
      refine o_assign ?_
      refine o_assign ?_
      first | refine g_endt ?_ | refine g_end ?_
      refine shutSI p ys S c b rfl ?_
      repeat (first | refine g_endt ?_ | refine g_end ?_ | refine g_then ?_ | refine g_in_normal ?_ | refine g_then_ret ?_ | refine g_in_ret ?_ | refine g_then_exit ?_ | refine g_in_exit rfl ?_ | refine g_in_exit_ne (by decide) ?_ | refine g_seq ?_ | refine g_region ?_ | refine g_block ?_ | refine g_ret ?_ | refine g_return_n ?_ | refine g_exit ?_ | refine g_skip ?_)
      exact ret2 rfl (resT rfl) (resT rfl) ⟨mid, true, rfl, rfl, by omega, fun _ => ⟨y, hy, hc⟩, fun e => by cases e⟩
    · first | refine g_seq (g_cond_f rfl (by simpa using hc) ?_) | refine g_cond_f rfl (by simpa using hc) ?_
      repeat (first | refine g_endt ?_ | refine g_end ?_ | refine g_then ?_ | refine g_in_normal ?_ | refine g_then_ret ?_ | refine g_in_ret ?_ | refine g_then_exit ?_ | refine g_in_exit rfl ?_ | refine g_in_exit_ne (by decide) ?_ | refine g_seq ?_ | refine g_region ?_ | refine g_block ?_ | refine g_ret ?_ | refine g_return_n ?_ | refine g_exit ?_ | refine g_skip ?_)
      refine o_move ?_
      refine o_lss rfl rfl ?_
      first | refine g_endt ?_ | refine g_end ?_
      by_cases hn : PgSI.cmp y x < 0
      · first | refine g_seq (g_cond_t rfl (by simpa using hn) ?_) | refine g_cond_t rfl (by simpa using hn) ?_
        repeat (first | refine g_endt ?_ | refine g_end ?_ | refine g_then ?_ | refine g_in_normal ?_ | refine g_then_ret ?_ | refine g_in_ret ?_ | refine g_then_exit ?_ | refine g_in_exit rfl ?_ | refine g_in_exit_ne (by decide) ?_ | refine g_seq ?_ | refine g_region ?_ | refine g_block ?_ | refine g_ret ?_ | refine g_return_n ?_ | refine g_exit ?_ | refine g_skip ?_)
        refine o_move ?_
        refine o_add (c := ((mid + 1 : Nat) : Int)) rfl rfl (by omega) (by omega) (by omega) ?_
        refine o_assign ?_
        first | refine g_endt ?_ | refine g_end ?_
        repeat (first | refine g_endt ?_ | refine g_end ?_ | refine g_then ?_ | refine g_in_normal ?_ | refine g_then_ret ?_ | refine g_in_ret ?_ | refine g_then_exit ?_ | refine g_in_exit rfl ?_ | refine g_in_exit_ne (by decide) ?_ | refine g_seq ?_ | refine g_region ?_ | refine g_block ?_ | refine g_ret ?_ | refine g_return_n ?_ | refine g_exit ?_ | refine g_skip ?_)
        refine g_meets ⟨(mid + 1, hi), by show mid + 1 ≤ hi; omega, h2, fun j y' hj hy' => ?_, h4⟩ (by show hi - (mid + 1) < hi - lo; omega) (Sat.mem ⟨rfl, rfl, rfl, rfl, trivial⟩)
        by_cases e : j = mid
        · subst e; rw [hy] at hy'; cases hy'; exact hn
        · exact PgSI.lin.trans _ _ _ (hs j mid y' y (by dsimp only at hj; omega) hy' hy) hn
      · first | refine g_seq (g_cond_f rfl (by simpa using hn) ?_) | refine g_cond_f rfl (by simpa using hn) ?_
        repeat (first | refine g_endt ?_ | refine g_end ?_ | refine g_then ?_ | refine g_in_normal ?_ | refine g_then_ret ?_ | refine g_in_ret ?_ | refine g_then_exit ?_ | refine g_in_exit rfl ?_ | refine g_in_exit_ne (by decide) ?_ | refine g_seq ?_ | refine g_region ?_ | refine g_block ?_ | refine g_ret ?_ | refine g_return_n ?_ | refine g_exit ?_ | refine g_skip ?_)
        refine o_move ?_
        refine o_assign ?_
        first | refine g_endt ?_ | refine g_end ?_
        repeat (first | refine g_endt ?_ | refine g_end ?_ | refine g_then ?_ | refine g_in_normal ?_ | refine g_then_ret ?_ | refine g_in_ret ?_ | refine g_then_exit ?_ | refine g_in_exit rfl ?_ | refine g_in_exit_ne (by decide) ?_ | refine g_seq ?_ | refine g_region ?_ | refine g_block ?_ | refine g_ret ?_ | refine g_return_n ?_ | refine g_exit ?_ | refine g_skip ?_)
        refine g_meets ⟨(lo, mid), hm1, by show mid ≤ ys.length; omega, h3, fun j y' hj hy' => ?_⟩ (by show mid - lo < hi - lo; omega) (Sat.mem ⟨rfl, rfl, rfl, rfl, trivial⟩)
        by_cases e : j = mid
        · subst e; rw [hy] at hy'; cases hy'; omega
        · have h5 := hs mid j y y' (by dsimp only at hj; omega) hy hy'
          have h6 := PgSI.lin.swap x y
          have h7 := PgSI.lin.trans x y y' (by omega) h5
          have h8 := PgSI.lin.swap x y'
          omega
  · first | refine g_seq (g_cond_f rfl (by simpa using h) ?_) | refine g_cond_f rfl (by simpa using h) ?_
    have e : lo = hi := by omega
    subst e
    repeat (first | refine g_endt ?_ | refine g_end ?_ | refine g_then ?_ | refine g_in_normal ?_ | refine g_then_ret ?_ | refine g_in_ret ?_ | refine g_then_exit ?_ | refine g_in_exit rfl ?_ | refine g_in_exit_ne (by decide) ?_ | refine g_seq ?_ | refine g_region ?_ | refine g_block ?_ | refine g_ret ?_ | refine g_return_n ?_ | refine g_exit ?_ | refine g_skip ?_)
    refine o_move ?_
    refine o_assign ?_
    refine o_assign ?_
    first | refine g_endt ?_ | refine g_end ?_
    refine shutSI p ys S c b rfl ?_
    repeat (first | refine g_endt ?_ | refine g_end ?_ | refine g_then ?_ | refine g_in_normal ?_ | refine g_then_ret ?_ | refine g_in_ret ?_ | refine g_then_exit ?_ | refine g_in_exit rfl ?_ | refine g_in_exit_ne (by decide) ?_ | refine g_seq ?_ | refine g_region ?_ | refine g_block ?_ | refine g_ret ?_ | refine g_return_n ?_ | refine g_exit ?_ | refine g_skip ?_)
    exact ret2 rfl (resT rfl) (resT rfl) ⟨lo, false, rfl, rfl, h2, fun e => (by cases e), fun _ => ⟨h3, h4⟩⟩
end Go.Proofs.Ytonjhakjnopbjaa
/- An ordered set's functions, for one type of members: own, Put. -/
namespace Go.Proofs.Ytonjhakjnopbjaa
open Go Go.Sl
attribute [local irreducible] Code.wpIn roundPost bodyPostM runL Ret Meets Begin

theorem ownSI_spec (p : Nat) (ys : List PgSI) (hl : ys.length ≤ 1000000000) : Ctr Try.prog 96 [.pointer (some ⟨p, 0, none⟩)] [SetASI p ys]
    (fun _ M => ∃ (S : Option Addr) (c : Nat), M = [cellsB p #[.slice S ys.length c, .bool false] 137, osl 111 PgSI.enc 4 S c ys]) := by
  refine spec_of Try.func96 rfl Try.ntmps96 rfl fun w0 F => ?_
  repeat (first | refine g_endt ?_ | refine g_end ?_ | refine g_then ?_ | refine g_in_normal ?_ | refine g_then_ret ?_ | refine g_in_ret ?_ | refine g_then_exit ?_ | refine g_in_exit rfl ?_ | refine g_in_exit_ne (by decide) ?_ | refine g_seq ?_ | refine g_region ?_ | refine g_block ?_ | refine g_ret ?_ | refine g_return_n ?_ | refine g_exit ?_ | refine g_skip ?_)
  refine openSI p ys fun S c b => ?_
  refine o_move ?_
  refine o_nil rfl ?_
  refine o_field rfl ?_
  refine o_load1 (v := .bool b) rfl rfl ?_
  refine g_endt ?_
  cases b
  · first | refine g_seq (g_cond_f rfl (rfl) ?_) | refine g_cond_f rfl (rfl) ?_
    change G _ _ [cellsB p #[.slice S ys.length c, .bool false] 137, osl 111 PgSI.enc 4 S c ys] _
    repeat (first | refine g_endt ?_ | refine g_end ?_ | refine g_then ?_ | refine g_in_normal ?_ | refine g_then_ret ?_ | refine g_in_ret ?_ | refine g_then_exit ?_ | refine g_in_exit rfl ?_ | refine g_in_exit_ne (by decide) ?_ | refine g_seq ?_ | refine g_region ?_ | refine g_block ?_ | refine g_ret ?_ | refine g_return_n ?_ | refine g_exit ?_ | refine g_skip ?_)
    exact ret0 rfl ⟨S, c, rfl⟩
  · first | refine g_seq (g_cond_t rfl (rfl) ?_) | refine g_cond_t rfl (rfl) ?_
    change G _ _ [cellsB p #[.slice S ys.length c, .bool true] 137, psl PgSI.enc 4 S ys] _
    repeat (first | refine g_endt ?_ | refine g_end ?_ | refine g_then ?_ | refine g_in_normal ?_ | refine g_then_ret ?_ | refine g_in_ret ?_ | refine g_then_exit ?_ | refine g_in_exit rfl ?_ | refine g_in_exit_ne (by decide) ?_ | refine g_seq ?_ | refine g_region ?_ | refine g_block ?_ | refine g_ret ?_ | refine g_return_n ?_ | refine g_exit ?_ | refine g_skip ?_)
    refine g_draw [7, 12, 15] [0,1,2,3,4,5,6,8,9,10,11,7,12,13,14,15] [cellsB p #[.slice S ys.length c, .bool true] 137, psl PgSI.enc 4 S ys] mixed rfl ?_
    refine ob_q rfl rfl ⟨_, fun X Q h => o_move (g_end (h _ _ ⟨rfl, rfl⟩)), ?_⟩
    refine ob_q rfl rfl ⟨_, fun X Q h => o_move (g_end (h _ _ ⟨rfl, rfl⟩)), ?_⟩
    refine ob_q rfl rfl ⟨_, fun X Q h => o_nil rfl (g_end (h _ _ ⟨rfl, rfl⟩)), ?_⟩
    refine ob_q rfl rfl ⟨_, fun X Q h => o_field rfl (g_end (h _ _ ⟨rfl, rfl⟩)), ?_⟩
    refine ob_q rfl rfl ⟨_, fun X Q h => o_load1 (v := .slice S ys.length c) rfl rfl (g_end (h _ _ ⟨rfl, rfl⟩)), ?_⟩
    refine ob_q rfl rfl ⟨_, fun X Q h => o_len rfl rfl (g_end (h _ _ ⟨rfl, rfl⟩)), ?_⟩
    refine ob_q rfl rfl ⟨_, fun X Q h => o_add (c := ((ys.length + 1 : Nat) : Int)) rfl rfl (by omega) (by omega) (by omega) (g_end (h _ _ ⟨rfl, rfl⟩)), ?_⟩
    refine ob_q rfl rfl ⟨_, fun X Q h => o_move (g_end (h _ _ ⟨rfl, rfl⟩)), ?_⟩
    refine ob_q rfl rfl ⟨_, fun X Q h => o_nil rfl (g_end (h _ _ ⟨rfl, rfl⟩)), ?_⟩
    refine ob_q rfl rfl ⟨_, fun X Q h => o_field rfl (g_end (h _ _ ⟨rfl, rfl⟩)), ?_⟩
    refine ob_q rfl rfl ⟨_, fun X Q h => o_load1 (v := .slice S ys.length c) rfl rfl (g_end (h _ _ ⟨rfl, rfl⟩)), ?_⟩
    refine ob_l rfl rfl fun Qz hz => o_make0 (α := PgSI) (enc := PgSI.enc) rfl rfl rfl (by omega) (by simp [maxLen]; omega) fun T => g_end (hz _ _ ⟨_, ob_fin, ?_⟩)
    clear hz Qz
    refine ob_l rfl rfl fun Qz hz => o_append0 (ys := ys) rfl rfl rfl rfl rfl (by simp [maxLen]; omega) (by omega) fun U d => g_end (hz _ _ ⟨_, ob_fin, ?_⟩)
    clear hz Qz
    refine ob_q rfl rfl ⟨_, fun X Q h => o_nil rfl (g_end (h _ _ ⟨rfl, rfl⟩)), ?_⟩
    refine ob_q rfl rfl ⟨_, fun X Q h => o_field rfl (g_end (h _ _ ⟨rfl, rfl⟩)), ?_⟩
    refine ob_s ([]) rfl rfl rfl fun Qz hz => o_store (v := .slice U ys.length d) rfl rfl rfl rfl rfl <| g_end (hz _ _ ⟨_, ob_fin, ?_⟩)
    clear hz Qz
    refine ob_nil ?_
    repeat (first | refine g_endt ?_ | refine g_end ?_ | refine g_then ?_ | refine g_in_normal ?_ | refine g_then_ret ?_ | refine g_in_ret ?_ | refine g_then_exit ?_ | refine g_in_exit rfl ?_ | refine g_in_exit_ne (by decide) ?_ | refine g_seq ?_ | refine g_region ?_ | refine g_block ?_ | refine g_ret ?_ | refine g_return_n ?_ | refine g_exit ?_ | refine g_skip ?_)
    refine o_move ?_
    refine o_nil rfl ?_
    refine o_field rfl ?_
    refine o_store rfl rfl rfl rfl rfl ?_
    first | refine g_endt ?_ | refine g_end ?_
    repeat (first | refine g_endt ?_ | refine g_end ?_ | refine g_then ?_ | refine g_in_normal ?_ | refine g_then_ret ?_ | refine g_in_ret ?_ | refine g_then_exit ?_ | refine g_in_exit rfl ?_ | refine g_in_exit_ne (by decide) ?_ | refine g_seq ?_ | refine g_region ?_ | refine g_block ?_ | refine g_ret ?_ | refine g_return_n ?_ | refine g_exit ?_ | refine g_skip ?_)
    refine G.norm p #[.slice U ys.length d, .bool false] rfl ?_
    exact ret0 rfl ⟨U, d, rfl⟩
end Go.Proofs.Ytonjhakjnopbjaa
/- An ordered set's functions, for one type of members: Put. -/
namespace Go.Proofs.Ytonjhakjnopbjaa
open Go Go.Sl
attribute [local irreducible] Code.wpIn roundPost bodyPostM runL Ret Meets Begin

theorem take_snocPSI {α : Type} (ys : List α) (i : Nat) (y : α) (h : ys[i]? = some y) : ys.take (i + 1) = ys.take i ++ [y] := by rw [List.take_add_one, h]; rfl
theorem gapSI (ys : List PgSI) (i : Nat) (w y : PgSI) (hi : i < ys.length) (hy : ys[i]? = some y) : (ys.take (i + 1) ++ w :: ys.drop (i + 1)).set (i + 1) y = ys.take i ++ y :: ys.drop i := by
  have h1 : (ys.take (i + 1)).length = i + 1 := by simp; omega
  have h2 : ys.drop i = y :: ys.drop (i + 1) := by
    rw [List.drop_eq_getElem_cons hi]
    rw [List.getElem?_eq_getElem hi] at hy
    cases hy
    rfl
  rw [List.set_append_right _ _ (by omega), h1, Nat.sub_self, List.set_cons_zero, take_snocPSI ys i y hy, h2]
  simp
theorem PutSI_spec (p : Nat) (ys : List PgSI) (x : PgSI) (hs : Srt PgSI.cmp ys) (hl : ys.length < 1000000000) : Ctr Try.prog 84 [.pointer (some ⟨p, 0, none⟩), x.val] [SetASI p ys]
    (fun v M => ∃ (k : Nat) (there : Bool), v = .bool !there ∧ M = [SetASI p (cond there ys (ys.take k ++ x :: ys.drop k))] ∧ FindR PgSI.cmp ys x k there) := by
  refine spec_of Try.func84 rfl Try.ntmps84 rfl fun w0 F => ?_
  repeat (first | refine g_endt ?_ | refine g_end ?_ | refine g_then ?_ | refine g_in_normal ?_ | refine g_then_ret ?_ | refine g_in_ret ?_ | refine g_then_exit ?_ | refine g_in_exit rfl ?_ | refine g_in_exit_ne (by decide) ?_ | refine g_seq ?_ | refine g_region ?_ | refine g_block ?_ | refine g_ret ?_ | refine g_return_n ?_ | refine g_exit ?_ | refine g_skip ?_)
  refine o_boxc x.val.cells rfl rfl fun q => ?_
  refine o_assign ?_
  first | refine g_endt ?_ | refine g_end ?_
  repeat (first | refine g_endt ?_ | refine g_end ?_ | refine g_then ?_ | refine g_in_normal ?_ | refine g_then_ret ?_ | refine g_in_ret ?_ | refine g_then_exit ?_ | refine g_in_exit rfl ?_ | refine g_in_exit_ne (by decide) ?_ | refine g_seq ?_ | refine g_region ?_ | refine g_block ?_ | refine g_ret ?_ | refine g_return_n ?_ | refine g_exit ?_ | refine g_skip ?_)
  refine o_move ?_
  refine o_peql rfl ?_
  first | refine g_endt ?_ | refine g_end ?_
  first | refine g_seq (g_cond_f rfl (rfl) ?_) | refine g_cond_f rfl (rfl) ?_
  repeat (first | refine g_endt ?_ | refine g_end ?_ | refine g_then ?_ | refine g_in_normal ?_ | refine g_then_ret ?_ | refine g_in_ret ?_ | refine g_then_exit ?_ | refine g_in_exit rfl ?_ | refine g_in_exit_ne (by decide) ?_ | refine g_seq ?_ | refine g_region ?_ | refine g_block ?_ | refine g_ret ?_ | refine g_return_n ?_ | refine g_exit ?_ | refine g_skip ?_)
  refine o_move ?_
  refine o_loadN (v := x.val) rfl rfl rfl ?_
  refine o_call (findSI_spec p ys x hs (by omega)) rfl rfl ?_
  rintro _ _ ⟨k, there, rfl, rfl, hk⟩
  refine o_move ?_
  refine o_extract rfl rfl ?_
  refine o_extract rfl rfl ?_
  refine o_assign ?_
  refine o_assign ?_
  first | refine g_endt ?_ | refine g_end ?_
  repeat (first | refine g_endt ?_ | refine g_end ?_ | refine g_then ?_ | refine g_in_normal ?_ | refine g_then_ret ?_ | refine g_in_ret ?_ | refine g_then_exit ?_ | refine g_in_exit rfl ?_ | refine g_in_exit_ne (by decide) ?_ | refine g_seq ?_ | refine g_region ?_ | refine g_block ?_ | refine g_ret ?_ | refine g_return_n ?_ | refine g_exit ?_ | refine g_skip ?_)
  refine o_move ?_
  refine g_endt ?_
  cases there
  case true =>
    first | refine g_seq (g_cond_t rfl (rfl) ?_) | refine g_cond_t rfl (rfl) ?_
    repeat (first | refine g_endt ?_ | refine g_end ?_ | refine g_then ?_ | refine g_in_normal ?_ | refine g_then_ret ?_ | refine g_in_ret ?_ | refine g_then_exit ?_ | refine g_in_exit rfl ?_ | refine g_in_exit_ne (by decide) ?_ | refine g_seq ?_ | refine g_region ?_ | refine g_block ?_ | refine g_ret ?_ | refine g_return_n ?_ | refine g_exit ?_ | refine g_skip ?_)
    refine o_assign ?_
    first | refine g_endt ?_ | refine g_end ?_
    repeat (first | refine g_endt ?_ | refine g_end ?_ | refine g_then ?_ | refine g_in_normal ?_ | refine g_then_ret ?_ | refine g_in_ret ?_ | refine g_then_exit ?_ | refine g_in_exit rfl ?_ | refine g_in_exit_ne (by decide) ?_ | refine g_seq ?_ | refine g_region ?_ | refine g_block ?_ | refine g_ret ?_ | refine g_return_n ?_ | refine g_exit ?_ | refine g_skip ?_)
    exact ret1 (K := [SetASI p ys]) rfl (resT rfl) ⟨k, true, rfl, rfl, hk⟩
  first | refine g_seq (g_cond_f rfl (rfl) ?_) | refine g_cond_f rfl (rfl) ?_
  repeat (first | refine g_endt ?_ | refine g_end ?_ | refine g_then ?_ | refine g_in_normal ?_ | refine g_then_ret ?_ | refine g_in_ret ?_ | refine g_then_exit ?_ | refine g_in_exit rfl ?_ | refine g_in_exit_ne (by decide) ?_ | refine g_seq ?_ | refine g_region ?_ | refine g_block ?_ | refine g_ret ?_ | refine g_return_n ?_ | refine g_exit ?_ | refine g_skip ?_)
  refine o_move ?_
  refine o_call (ownSI_spec p ys (by omega)) rfl rfl ?_
  rintro _ _ ⟨S, c, rfl⟩
  refine g_endt ?_
  repeat (first | refine g_endt ?_ | refine g_end ?_ | refine g_then ?_ | refine g_in_normal ?_ | refine g_then_ret ?_ | refine g_in_ret ?_ | refine g_then_exit ?_ | refine g_in_exit rfl ?_ | refine g_in_exit_ne (by decide) ?_ | refine g_seq ?_ | refine g_region ?_ | refine g_block ?_ | refine g_ret ?_ | refine g_return_n ?_ | refine g_exit ?_ | refine g_skip ?_)
  refine g_draw [6, 7, 10] [0,1,2,3,4,5,6,7,8,9,10] [cellsB p #[.slice S ys.length c, .bool false] 137, cellsB q x.val.cells 111] mixed rfl ?_
  refine ob_q rfl rfl ⟨_, fun X Q h => o_move (g_end (h _ _ ⟨rfl, rfl⟩)), ?_⟩
  refine ob_q rfl rfl ⟨_, fun X Q h => o_move (g_end (h _ _ ⟨rfl, rfl⟩)), ?_⟩
  refine ob_q rfl rfl ⟨_, fun X Q h => o_nil rfl (g_end (h _ _ ⟨rfl, rfl⟩)), ?_⟩
  refine ob_q rfl rfl ⟨_, fun X Q h => o_field rfl (g_end (h _ _ ⟨rfl, rfl⟩)), ?_⟩
  refine ob_q rfl rfl ⟨_, fun X Q h => o_load1 (v := .slice S ys.length c) rfl rfl (g_end (h _ _ ⟨rfl, rfl⟩)), ?_⟩
  refine ob_q rfl rfl ⟨_, fun X Q h => o_loadN (v := x.val) rfl rfl rfl (g_end (h _ _ ⟨rfl, rfl⟩)), ?_⟩
  refine ob_l rfl rfl fun Qz hz => o_slice_lit (e := 111) x.val.cells (fun w => by kernel_rfl) fun g => G.lit_slice (enc := PgSI.enc) (sz := 4) [x] (by simp [PgSI.enc]) (by simp [maxLen]) <| G.freeze_slice <| g_end (hz _ _ ⟨_, ob_fin, ?_⟩)
  clear hz Qz
  refine ob_l rfl rfl fun Qz hz => o_append (xs := ys) (ys := [x]) rfl rfl rfl rfl rfl (fun _ => .inr trivial) (by simp [maxLen]; omega) (by simp; omega) fun U d => g_end (hz _ _ ⟨_, ob_fin, ?_⟩)
  clear hz Qz
  refine ob_q rfl rfl ⟨_, fun X Q h => o_nil rfl (g_end (h _ _ ⟨rfl, rfl⟩)), ?_⟩
  refine ob_q rfl rfl ⟨_, fun X Q h => o_field rfl (g_end (h _ _ ⟨rfl, rfl⟩)), ?_⟩
  refine ob_s ([]) rfl rfl rfl fun Qz hz => o_store (v := .slice U (ys.length + 1) d) rfl rfl rfl rfl rfl <| g_end (hz _ _ ⟨_, ob_fin, ?_⟩)
  clear hz Qz
  refine ob_nil ?_
  refine G.norm p #[.slice U (ys.length + 1) d, .bool false] rfl ?_
  repeat (first | refine g_endt ?_ | refine g_end ?_ | refine g_then ?_ | refine g_in_normal ?_ | refine g_then_ret ?_ | refine g_in_ret ?_ | refine g_then_exit ?_ | refine g_in_exit rfl ?_ | refine g_in_exit_ne (by decide) ?_ | refine g_seq ?_ | refine g_region ?_ | refine g_block ?_ | refine g_ret ?_ | refine g_return_n ?_ | refine g_exit ?_ | refine g_skip ?_)
  refine o_move ?_
  refine o_nil rfl ?_
  refine o_field rfl ?_
  refine o_load1 (v := .slice U (ys.length + 1) d) rfl rfl ?_
  refine o_len rfl rfl ?_
  refine o_sub (c := ((ys.length : Nat) : Int)) rfl rfl (by omega) (by omega) (by omega) ?_
  refine o_assign ?_
  refine g_endt ?_
  repeat (first | refine g_endt ?_ | refine g_end ?_ | refine g_then ?_ | refine g_in_normal ?_ | refine g_then_ret ?_ | refine g_in_ret ?_ | refine g_then_exit ?_ | refine g_in_exit rfl ?_ | refine g_in_exit_ne (by decide) ?_ | refine g_seq ?_ | refine g_region ?_ | refine g_block ?_ | refine g_ret ?_ | refine g_return_n ?_ | refine g_exit ?_ | refine g_skip ?_)
  have hk1 : k ≤ ys.length := hk.1
  refine g_loop (σ := {s : Nat × PgSI // k ≤ s.1 ∧ s.1 ≤ ys.length})
    (S := fun s => [(0, .pointer (some ⟨p, 0, none⟩)), (3, .pointer (some ⟨q, 0, none⟩)), (5, .int .i64 (k : Int)), (7, .int .i64 (s.1.1 : Int))])
    (H := fun s => [cellsB p #[.slice U (ys.length + 1) d, .bool false] 137, cellsB q x.val.cells 111, osl 111 PgSI.enc 4 U d (ys.take s.1.1 ++ s.1.2 :: ys.drop s.1.1)]) (μ := fun s => s.1.1)
    (s0 := ⟨(ys.length, x), hk1, Nat.le_refl _⟩) (Sat.mem ⟨rfl, rfl, rfl, rfl, trivial⟩) (t := by simp only [List.take_length, List.drop_length]; infer_instance) ?_
  rintro ⟨⟨i, w⟩, h1, h2⟩ ρ'
  dsimp only at h1 h2 ⊢
  have hlen : (ys.take i ++ w :: ys.drop i).length = ys.length + 1 := by simp; omega
  repeat (first | refine g_endt ?_ | refine g_end ?_ | refine g_then ?_ | refine g_in_normal ?_ | refine g_then_ret ?_ | refine g_in_ret ?_ | refine g_then_exit ?_ | refine g_in_exit rfl ?_ | refine g_in_exit_ne (by decide) ?_ | refine g_seq ?_ | refine g_region ?_ | refine g_block ?_ | refine g_ret ?_ | refine g_return_n ?_ | refine g_exit ?_ | refine g_skip ?_)
  refine o_move ?_
  refine o_move ?_
  refine o_gtr rfl rfl ?_
  first | refine g_endt ?_ | refine g_end ?_
  by_cases h : k < i
  · first | refine g_seq (g_cond_t rfl (by simpa using h) ?_) | refine g_cond_t rfl (by simpa using h) ?_
    repeat (first | refine g_endt ?_ | refine g_end ?_ | refine g_then ?_ | refine g_in_normal ?_ | refine g_then_ret ?_ | refine g_in_ret ?_ | refine g_then_exit ?_ | refine g_in_exit rfl ?_ | refine g_in_exit_ne (by decide) ?_ | refine g_seq ?_ | refine g_region ?_ | refine g_block ?_ | refine g_ret ?_ | refine g_return_n ?_ | refine g_exit ?_ | refine g_skip ?_)
    obtain ⟨i, rfl⟩ : ∃ j, i = j + 1 := ⟨i - 1, by omega⟩
    have hi : i < ys.length := by omega
    obtain ⟨y, hy⟩ : ∃ y, ys[i]? = some y := ⟨_, List.getElem?_eq_getElem hi⟩
    have hz : (ys.take (i + 1) ++ w :: ys.drop (i + 1))[i]? = some y := by
      rw [List.getElem?_append_left (by simp; omega), List.getElem?_take, if_pos (by omega), hy]
    refine g_draw [14] [0,1,2,3,4,5,6,7,8,9,10,11,12,13,14] [cellsB p #[.slice U (ys.length + 1) d, .bool false] 137, osl 111 PgSI.enc 4 U d (ys.take (i + 1) ++ w :: ys.drop (i + 1))] mixed rfl ?_
    refine ob_q rfl rfl ⟨_, fun X Q h => o_move (g_end (h _ _ ⟨rfl, rfl⟩)), ?_⟩
    refine ob_q rfl rfl ⟨_, fun X Q h => o_nil rfl (g_end (h _ _ ⟨rfl, rfl⟩)), ?_⟩
    refine ob_q rfl rfl ⟨_, fun X Q h => o_field rfl (g_end (h _ _ ⟨rfl, rfl⟩)), ?_⟩
    refine ob_q rfl rfl ⟨_, fun X Q h => o_load1 (v := .slice U (ys.length + 1) d) rfl rfl (g_end (h _ _ ⟨rfl, rfl⟩)), ?_⟩
    refine ob_q rfl rfl ⟨_, fun X Q h => o_move (g_end (h _ _ ⟨rfl, rfl⟩)), ?_⟩
    refine ob_q rfl rfl ⟨_, fun X Q h => o_move (g_end (h _ _ ⟨rfl, rfl⟩)), ?_⟩
    refine ob_q rfl rfl ⟨_, fun X Q h => o_nil rfl (g_end (h _ _ ⟨rfl, rfl⟩)), ?_⟩
    refine ob_q rfl rfl ⟨_, fun X Q h => o_field rfl (g_end (h _ _ ⟨rfl, rfl⟩)), ?_⟩
    refine ob_q rfl rfl ⟨_, fun X Q h => o_load1 (v := .slice U (ys.length + 1) d) rfl rfl (g_end (h _ _ ⟨rfl, rfl⟩)), ?_⟩
    refine ob_q rfl rfl ⟨_, fun X Q h => o_move (g_end (h _ _ ⟨rfl, rfl⟩)), ?_⟩
    refine ob_q rfl rfl ⟨_, fun X Q h => o_sub (c := ((i : Nat) : Int)) rfl rfl (by omega) (by omega) (by omega) (g_end (h _ _ ⟨rfl, rfl⟩)), ?_⟩
    refine ob_q rfl rfl ⟨_, fun X Q h => o_indexR (i := i) rfl rfl rfl (by omega) hlen rfl (g_end (h _ _ ⟨rfl, rfl⟩)), ?_⟩
    refine ob_q rfl rfl ⟨_, fun X Q h => o_loadE (enc := PgSI.enc) rfl rfl hz (g_end (h _ _ ⟨rfl, rfl⟩)), ?_⟩
    refine ob_q rfl rfl ⟨_, fun X Q h => o_indexR (i := i + 1) rfl rfl rfl (by omega) hlen rfl (g_end (h _ _ ⟨rfl, rfl⟩)), ?_⟩
    refine ob_s ([]) rfl rfl rfl fun Qz hz => o_storeE (e := 111) (c := d) (v := y.val) (z := y) (i := i + 1) (enc := PgSI.enc) (xs := ys.take (i + 1) ++ w :: ys.drop (i + 1)) rfl rfl rfl rfl (by omega) <| g_end (hz _ _ ⟨_, ob_fin, ?_⟩)
    clear hz Qz
    refine ob_nil ?_
    rw [gapSI ys i w y hi hy]
    repeat (first | refine g_endt ?_ | refine g_end ?_ | refine g_then ?_ | refine g_in_normal ?_ | refine g_then_ret ?_ | refine g_in_ret ?_ | refine g_then_exit ?_ | refine g_in_exit rfl ?_ | refine g_in_exit_ne (by decide) ?_ | refine g_seq ?_ | refine g_region ?_ | refine g_block ?_ | refine g_ret ?_ | refine g_return_n ?_ | refine g_exit ?_ | refine g_skip ?_)
    refine o_move ?_
    refine o_sub (c := ((i : Nat) : Int)) rfl rfl (by omega) (by omega) (by omega) ?_
    refine o_assign ?_
    refine g_endt ?_
    repeat (first | refine g_endt ?_ | refine g_end ?_ | refine g_then ?_ | refine g_in_normal ?_ | refine g_then_ret ?_ | refine g_in_ret ?_ | refine g_then_exit ?_ | refine g_in_exit rfl ?_ | refine g_in_exit_ne (by decide) ?_ | refine g_seq ?_ | refine g_region ?_ | refine g_block ?_ | refine g_ret ?_ | refine g_return_n ?_ | refine g_exit ?_ | refine g_skip ?_)
    exact g_meets ⟨(i, y), by show k ≤ i; omega, by show i ≤ ys.length; omega⟩ (by show i < i + 1; omega) (Sat.mem ⟨rfl, rfl, rfl, rfl, trivial⟩)
  · first | refine g_seq (g_cond_f rfl (by simpa using h) ?_) | refine g_cond_f rfl (by simpa using h) ?_
    have e : i = k := by omega
    subst e
    repeat (first | refine g_endt ?_ | refine g_end ?_ | refine g_then ?_ | refine g_in_normal ?_ | refine g_then_ret ?_ | refine g_in_ret ?_ | refine g_then_exit ?_ | refine g_in_exit rfl ?_ | refine g_in_exit_ne (by decide) ?_ | refine g_seq ?_ | refine g_region ?_ | refine g_block ?_ | refine g_ret ?_ | refine g_return_n ?_ | refine g_exit ?_ | refine g_skip ?_)
    refine g_draw [7] [0,1,2,3,4,5,6,7] [cellsB p #[.slice U (ys.length + 1) d, .bool false] 137, osl 111 PgSI.enc 4 U d (ys.take i ++ w :: ys.drop i), cellsB q x.val.cells 111] mixed rfl ?_
    refine ob_q rfl rfl ⟨_, fun X Q h => o_move (g_end (h _ _ ⟨rfl, rfl⟩)), ?_⟩
    refine ob_q rfl rfl ⟨_, fun X Q h => o_nil rfl (g_end (h _ _ ⟨rfl, rfl⟩)), ?_⟩
    refine ob_q rfl rfl ⟨_, fun X Q h => o_field rfl (g_end (h _ _ ⟨rfl, rfl⟩)), ?_⟩
    refine ob_q rfl rfl ⟨_, fun X Q h => o_load1 (v := .slice U (ys.length + 1) d) rfl rfl (g_end (h _ _ ⟨rfl, rfl⟩)), ?_⟩
    refine ob_q rfl rfl ⟨_, fun X Q h => o_move (g_end (h _ _ ⟨rfl, rfl⟩)), ?_⟩
    refine ob_q rfl rfl ⟨_, fun X Q h => o_loadN (v := x.val) rfl rfl rfl (g_end (h _ _ ⟨rfl, rfl⟩)), ?_⟩
    refine ob_q rfl rfl ⟨_, fun X Q h => o_indexR (i := i) rfl rfl rfl (by omega) hlen rfl (g_end (h _ _ ⟨rfl, rfl⟩)), ?_⟩
    refine ob_s ([]) rfl rfl rfl fun Qz hz => o_storeE (e := 111) (c := d) (v := x.val) (z := x) (i := i) (enc := PgSI.enc) (xs := ys.take i ++ w :: ys.drop i) rfl rfl rfl rfl (by omega) <| g_end (hz _ _ ⟨_, ob_fin, ?_⟩)
    clear hz Qz
    refine ob_nil ?_
    have hset : (ys.take i ++ w :: ys.drop i).set i x = ys.take i ++ x :: ys.drop i := by
      have h3 : (ys.take i).length = i := by simp; omega
      rw [List.set_append_right _ _ (by omega), h3, Nat.sub_self, List.set_cons_zero]
    rw [hset]
    repeat (first | refine g_endt ?_ | refine g_end ?_ | refine g_then ?_ | refine g_in_normal ?_ | refine g_then_ret ?_ | refine g_in_ret ?_ | refine g_then_exit ?_ | refine g_in_exit rfl ?_ | refine g_in_exit_ne (by decide) ?_ | refine g_seq ?_ | refine g_region ?_ | refine g_block ?_ | refine g_ret ?_ | refine g_return_n ?_ | refine g_exit ?_ | refine g_skip ?_)
    refine o_assign ?_
    first | refine g_endt ?_ | refine g_end ?_
    refine shutFSI p (ys.take i ++ x :: ys.drop i) U d (len := ys.length + 1) (by simp; omega) ?_
    repeat (first | refine g_endt ?_ | refine g_end ?_ | refine g_then ?_ | refine g_in_normal ?_ | refine g_then_ret ?_ | refine g_in_ret ?_ | refine g_then_exit ?_ | refine g_in_exit rfl ?_ | refine g_in_exit_ne (by decide) ?_ | refine g_seq ?_ | refine g_region ?_ | refine g_block ?_ | refine g_ret ?_ | refine g_return_n ?_ | refine g_exit ?_ | refine g_skip ?_)
    exact ret1 (K := [SetASI p (ys.take i ++ x :: ys.drop i)]) rfl (resT rfl) ⟨i, false, rfl, rfl, hk⟩
end Go.Proofs.Ytonjhakjnopbjaa
