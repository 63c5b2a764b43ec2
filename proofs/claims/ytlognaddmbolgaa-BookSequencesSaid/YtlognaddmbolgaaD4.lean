/- Sorted lists: a member put in, taken out, exchanged. Plain law, no program in sight. -/
import Derived.Test.YtlognaddmbolgaaD3
namespace Go.Proofs.Ytlognaddmbolgaa
open Go Go.Sl

section
variable {α : Type} {f : α → α → Int} (lf : LinCmp f) {ys : List α} {x y : α} {k : Nat}
theorem get_ins (hk : k ≤ ys.length) (j : Nat) : (ys.take k ++ x :: ys.drop k)[j]? = if j < k then ys[j]? else if j = k then some x else ys[j - 1]? := by
  have h1 : (ys.take k).length = k := by simp; omega
  by_cases h : j < k
  · rw [List.getElem?_append_left (by omega), if_pos h, List.getElem?_take, if_pos h]
  · rw [if_neg h, List.getElem?_append_right (by omega), h1]
    by_cases e : j = k
    · subst e; simp
    · rw [if_neg e]
      obtain ⟨m, hm⟩ : ∃ m, j - k = m + 1 := ⟨j - k - 1, by omega⟩
      rw [hm, List.getElem?_cons_succ, List.getElem?_drop]
      congr 1
      omega
theorem Srt.erase (hs : Srt f ys) (k : Nat) : Srt f (ys.eraseIdx k) := by
  intro i j a b hij ha hb
  rw [List.getElem?_eraseIdx] at ha hb
  split at ha <;> split at hb
  · exact hs i j a b hij ha hb
  · exact hs i (j + 1) a b (by omega) ha hb
  · omega
  · exact hs (i + 1) (j + 1) a b (by omega) ha hb
/-- The member that is one with x. -/
def getM (f : α → α → Int) (ys : List α) (x : α) : Option α := ys.find? fun y => decide (f y x = 0)
theorem getM_none (h : FindR f ys x k false) : getM f ys x = none := by
  obtain ⟨h1, h2⟩ := h.2.2 rfl
  refine List.find?_eq_none.2 fun y hy => ?_
  obtain ⟨j, hj⟩ := List.mem_iff_getElem?.1 hy
  by_cases hjk : j < k
  · have := h1 j y hjk hj; simp; omega
  · have := h2 j y (by omega) hj; simp; omega
include lf
theorem Srt.ins (hs : Srt f ys) (hf : FindR f ys x k false) : Srt f (ys.take k ++ x :: ys.drop k) := by
  obtain ⟨hk, _, h⟩ := hf
  obtain ⟨h1, h2⟩ := h rfl
  intro i j a b hij ha hb
  rw [get_ins hk] at ha hb
  by_cases hi : i < k
  · rw [if_pos hi] at ha
    by_cases hj : j < k
    · rw [if_pos hj] at hb; exact hs i j a b hij ha hb
    · rw [if_neg hj] at hb
      by_cases e : j = k
      · rw [if_pos e] at hb; cases hb; exact h1 i a hi ha
      · rw [if_neg e] at hb; exact hs i (j - 1) a b (by omega) ha hb
  · rw [if_neg hi] at ha
    rw [if_neg (by omega), if_neg (by omega)] at hb
    by_cases e : i = k
    · rw [if_pos e] at ha; cases ha
      have := h2 (j - 1) b (by omega) hb
      have := lf.swap b x
      omega
    · rw [if_neg e] at ha; exact hs (i - 1) (j - 1) a b (by omega) ha hb
theorem Srt.set (hs : Srt f ys) (hy : ys[k]? = some y) (e : f y x = 0) : Srt f (ys.set k x) := by
  have hk : k < ys.length := (List.getElem?_eq_some_iff.1 hy).1
  intro i j a b hij ha hb
  rw [List.getElem?_set] at ha hb
  by_cases hi : k = i
  · rw [if_pos hi, if_pos (by omega)] at ha
    cases ha
    rw [if_neg (by omega)] at hb
    subst hi
    rw [← lf.eqv y x b e]
    exact hs k j y b hij hy hb
  · rw [if_neg hi] at ha
    by_cases hj : k = j
    · rw [if_pos hj, if_pos (by omega)] at hb
      cases hb
      subst hj
      rw [← lf.eqv' y x a e]
      exact hs i k a y hij ha hy
    · rw [if_neg hj] at hb
      exact hs i j a b hij ha hb
/-- Where a thing stands is one place. -/
theorem FindR.one {k' : Nat} (hs : Srt f ys) (h : FindR f ys x k true) (h' : FindR f ys x k' true) : k = k' := by
  obtain ⟨a, ha, ea⟩ := h.2.1 rfl
  obtain ⟨b, hb, eb⟩ := h'.2.1 rfl
  have e2 : f a b = 0 := by
    have h3 := lf.swap b x
    rw [lf.eqv' x b a (by omega)] at ea
    exact ea
  rcases Nat.lt_trichotomy k k' with h3 | h3 | h3
  · have := hs k k' a b h3 ha hb; omega
  · exact h3
  · have := hs k' k b a h3 hb ha
    have := lf.swap a b
    omega
theorem getM_some (hs : Srt f ys) (h : FindR f ys x k true) (hy : ys[k]? = some y) : getM f ys x = some y := by
  have hk := h.2.1 rfl
  obtain ⟨a, ha, ea⟩ := hk
  rw [hy] at ha
  cases ha
  cases hg : getM f ys x with
  | none =>
    have := List.find?_eq_none.1 hg y (List.mem_of_getElem? hy)
    simp [ea] at this
  | some b =>
    have h1 := List.find?_some hg
    have h2 := List.mem_of_find?_eq_some hg
    obtain ⟨j, hj⟩ := List.mem_iff_getElem?.1 h2
    have h3 : FindR f ys x j true := ⟨by have := (List.getElem?_eq_some_iff.1 hj).1; omega, fun _ => ⟨b, hj, by simpa using h1⟩, fun e => by cases e⟩
    have h4 := FindR.one lf hs h h3
    subst h4
    rw [hy] at hj
    exact hj.symm
/-- What is not there has its place all the same. -/
theorem find_none (hs : Srt f ys) (h : getM f ys x = none) : ∃ k, FindR f ys x k false := by
  have hne : ∀ (j : Nat) (a : α), ys[j]? = some a → f a x ≠ 0 := fun j a ha => by
    have := List.find?_eq_none.1 h a (List.mem_of_getElem? ha)
    simpa using this
  have key : ∀ n, n ≤ ys.length → ∃ k, k ≤ n ∧ (∀ (j : Nat) (a : α), j < k → ys[j]? = some a → f a x < 0) ∧ ∀ (j : Nat) (a : α), k ≤ j → j < n → ys[j]? = some a → 0 < f a x := by
    intro n
    induction n with
    | zero => exact fun _ => ⟨0, Nat.le_refl _, fun j a hj => absurd hj (Nat.not_lt_zero j), fun j a _ hj => absurd hj (Nat.not_lt_zero j)⟩
    | succ n ih =>
      intro hn
      obtain ⟨k, hk, h1, h2⟩ := ih (by omega)
      obtain ⟨b, hb⟩ : ∃ b, ys[n]? = some b := ⟨_, List.getElem?_eq_getElem (by omega)⟩
      by_cases hlt : f b x < 0
      · refine ⟨n + 1, Nat.le_refl _, fun j a hj ha => ?_, fun j a h3 h4 => by omega⟩
        by_cases e : j = n
        · subst e; rw [hb] at ha; cases ha; exact hlt
        · exact lf.trans _ _ _ (hs j n a b (by omega) ha hb) hlt
      · refine ⟨k, by omega, h1, fun j a hj hjn ha => ?_⟩
        by_cases e : j = n
        · subst e; rw [hb] at ha; cases ha; have := hne j b hb; omega
        · exact h2 j a hj (by omega) ha
  obtain ⟨k, hk, h1, h2⟩ := key ys.length (Nat.le_refl _)
  exact ⟨k, hk, fun e => (by cases e), fun _ => ⟨h1, fun j a hj ha => h2 j a hj (List.getElem?_eq_some_iff.1 ha).1 ha⟩⟩
/-- One exchanged for another that is one with it: taken out and put in again. -/
theorem replace {k' : Nat} {there : Bool} (hs : Srt f ys) (hy : ys[k]? = some y) (e : f y x = 0) (h : FindR f (ys.eraseIdx k) x k' there) : there = false ∧ (ys.eraseIdx k).take k' ++ x :: (ys.eraseIdx k).drop k' = ys.set k x := by
  have hk : k < ys.length := (List.getElem?_eq_some_iff.1 hy).1
  have low : ∀ j a, j < k → ys[j]? = some a → f a x < 0 := fun j a hj ha => by
    rw [← lf.eqv' y x a e]; exact hs j k a y hj ha hy
  have high : ∀ j a, k < j → ys[j]? = some a → 0 < f a x := fun j a hj ha => by
    have h1 := hs k j y a hj hy ha
    have h2 := lf.swap y a
    rw [← lf.eqv' y x a e]
    omega
  have hne : ∀ j a, (ys.eraseIdx k)[j]? = some a → f a x ≠ 0 := fun j a ha => by
    rw [List.getElem?_eraseIdx] at ha
    split at ha
    · have := low j a ‹_› ha; omega
    · have := high (j + 1) a (by omega) ha; omega
  have ht : there = false := by
    cases there with
    | false => rfl
    | true =>
      obtain ⟨a, ha, ea⟩ := h.2.1 rfl
      exact absurd ea (hne k' a ha)
  subst ht
  refine ⟨rfl, ?_⟩
  obtain ⟨h1, h2⟩ := h.2.2 rfl
  have hlen : (ys.eraseIdx k).length = ys.length - 1 := by rw [List.length_eraseIdx, if_pos hk]
  have hkk : k' = k := by
    rcases Nat.lt_trichotomy k' k with h3 | h3 | h3
    · have hj : k' < ys.length := by omega
      have ha : (ys.eraseIdx k)[k']? = some ys[k'] := by rw [List.getElem?_eraseIdx, if_pos h3, List.getElem?_eq_getElem hj]
      have := h2 k' _ (Nat.le_refl _) ha
      have := low k' _ h3 (List.getElem?_eq_getElem hj)
      omega
    · exact h3
    · have hj : k + 1 < ys.length := by have := h.1; omega
      have ha : (ys.eraseIdx k)[k]? = some ys[k + 1] := by rw [List.getElem?_eraseIdx, if_neg (by omega), List.getElem?_eq_getElem hj]
      have := h1 k _ h3 ha
      have := high (k + 1) _ (by omega) (List.getElem?_eq_getElem hj)
      omega
  subst hkk
  rw [List.eraseIdx_eq_take_drop_succ, List.set_eq_take_append_cons_drop, if_pos hk]
  have h3 : (ys.take k').length = k' := by simp; omega
  rw [List.take_append_of_le_length (by omega), List.take_of_length_le (by omega), List.drop_append_of_le_length (by omega), List.drop_of_length_le (by omega), List.nil_append]
end
/-- What a search tells, and what is passed over. -/
theorem find_dropWhile {α : Type} {f : α → α → Int} (lf : LinCmp f) {ys : List α} {x : α} {k : Nat} {there : Bool} (hs : Srt f ys) (h : FindR f ys x k there) : ys.drop k = ys.dropWhile fun y => decide (f y x < 0) := by
  have h1 : ∀ (j : Nat) (y : α), j < k → ys[j]? = some y → f y x < 0 := by
    cases there with
    | false => exact (h.2.2 rfl).1
    | true =>
      obtain ⟨z, hz, e⟩ := h.2.1 rfl
      intro j y hj hy
      have := hs j k y z hj hy hz
      have h2 := lf.eqv' z x y e
      omega
  have h2 : ∀ (j : Nat) (y : α), k ≤ j → ys[j]? = some y → ¬ f y x < 0 := by
    cases there with
    | false => intro j y hj hy; have := (h.2.2 rfl).2 j y hj hy; omega
    | true =>
      obtain ⟨z, hz, e⟩ := h.2.1 rfl
      intro j y hj hy
      by_cases e2 : j = k
      · subst e2; rw [hz] at hy; cases hy; omega
      · have := hs k j z y (by omega) hz hy
        have h3 := lf.eqv' z x y e
        have h4 := lf.swap z y
        omega
  have h0 := h.1
  clear h hs lf
  induction ys generalizing k with
  | nil => simp
  | cons y ys ih =>
    cases k with
    | zero =>
      have := h2 0 y (Nat.le_refl _) rfl
      simp [this]
    | succ k =>
      have := h1 0 y (by omega) rfl
      simp only [List.drop_succ_cons]
      rw [List.dropWhile_cons_of_pos (by simpa using this)]
      exact ih (fun j z hj hz => h1 (j + 1) z (by omega) (by simpa using hz)) (fun j z hj hz => h2 (j + 1) z (by omega) (by simpa using hz)) (by simpa using h0)
/-- A loop's store, opened till its first round. -/
def Jin {α : Type} (O : List SProp) (J : List α → List SProp) : List α → List SProp
  | [] => O
  | y :: t => J (y :: t)
theorem Jin_snoc {α : Type} (O : List SProp) (J : List α → List SProp) (pre : List α) (x : α) : Jin O J (pre ++ [x]) = J (pre ++ [x]) := by cases pre <;> rfl
theorem Jin_ent {α : Type} {O : List SProp} {J : List α → List SProp} (h : Ent (sl O) (sl (J []))) : ∀ pre, Ent (sl (Jin O J pre)) (sl (J pre))
  | [] => h
  | _ :: _ => .refl _
end Go.Proofs.Ytlognaddmbolgaa
