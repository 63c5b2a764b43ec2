/- How often each symbol stands in a list, as an ordered map has it. Plain law, no program in sight. -/
import Derived.Test.YtlognaddmbolgaaPSI
import Derived.Test.YtlognaddmbolgaaD4
namespace Go.Proofs.Ytlognaddmbolgaa
open Go Go.Sl

def cnt (l : List SymD) (k : SymD) : Nat := l.countP fun s => s.beq k
theorem cnt_snoc (l : List SymD) (x k : SymD) : cnt (l ++ [x]) k = cnt l k + if x.beq k = true then 1 else 0 := by
  simp [cnt, List.countP_append, List.countP_singleton]
theorem SymD.beq_self (x : SymD) : x.beq x = true := (SymD.beq_iff x x).2 rfl
theorem SymD.beq_ne {x k : SymD} (h : x ≠ k) : ¬ x.beq k = true := fun e => h ((SymD.beq_iff x k).1 e)
structure CntI (pre : List SymD) (ys : List PgSI) : Prop where
  srt : Srt PgSI.cmp ys
  len : ys.length ≤ pre.length
  mem : ∀ y, y ∈ ys ↔ (0 < cnt pre y.k ∧ y.v = (cnt pre y.k : Int))
  sum : (ys.map PgSI.v).sum = (pre.length : Int)
theorem PgSI.cmp_key {y : PgSI} {k : SymD} {v : Int} : PgSI.cmp y ⟨k, v⟩ = 0 ↔ y.k = k :=
  ⟨fun h => SymD.cmp_zero h, fun h => by show SymD.cmp y.k k = 0; rw [h]; exact linSym.refl k⟩
theorem CntI.nil : CntI [] [] := ⟨fun i j a b _ h => by simp at h, Nat.le_refl _, fun y => by simp [cnt], by simp⟩
theorem CntI.get {pre : List SymD} {ys : List PgSI} (h : CntI pre ys) (k : SymD) (v : Int) : getM PgSI.cmp ys ⟨k, v⟩ = if cnt pre k = 0 then none else some ⟨k, (cnt pre k : Int)⟩ := by
  cases hg : getM PgSI.cmp ys ⟨k, v⟩ with
  | none =>
    by_cases e : cnt pre k = 0
    · rw [if_pos e]
    · exfalso
      have hm := (h.mem ⟨k, (cnt pre k : Int)⟩).2 ⟨by show 0 < cnt pre k; omega, rfl⟩
      have := List.find?_eq_none.1 hg _ hm
      simp at this
      exact this (PgSI.cmp_key.2 rfl)
  | some y =>
    have h1 : PgSI.cmp y ⟨k, v⟩ = 0 := by simpa using List.find?_some hg
    have h2 := (h.mem y).1 (List.mem_of_find?_eq_some hg)
    have h3 := PgSI.cmp_key.1 h1
    obtain ⟨yk, yv⟩ := y
    dsimp only at h3 h2
    subst h3
    rw [if_neg (by omega), h2.2]
theorem CntI.step {pre : List SymD} {ys : List PgSI} (h : CntI pre ys) (x : SymD) {i : Nat} {there : Bool} (hf : FindR PgSI.cmp ys ⟨x, (cnt pre x : Int) + 1⟩ i there) :
    CntI (pre ++ [x]) (cond there (ys.set i ⟨(ys[i]?.map (·.k)).getD x, (cnt pre x : Int) + 1⟩) (ys.take i ++ ⟨x, (cnt pre x : Int) + 1⟩ :: ys.drop i)) := by
  cases there with
  | false =>
    have hno : ∀ y ∈ ys, y.k ≠ x := fun y hy e => by
      obtain ⟨j, hj⟩ := List.mem_iff_getElem?.1 hy
      obtain ⟨h1, h2⟩ := hf.2.2 rfl
      have hz : PgSI.cmp y ⟨x, (cnt pre x : Int) + 1⟩ = 0 := PgSI.cmp_key.2 e
      by_cases hji : j < i
      · have := h1 j y hji hj; omega
      · have := h2 j y (by omega) hj; omega
    have h0 : cnt pre x = 0 := by
      by_cases e : cnt pre x = 0
      · exact e
      · exact absurd rfl (hno ⟨x, (cnt pre x : Int)⟩ ((h.mem _).2 ⟨by show 0 < cnt pre x; omega, rfl⟩))
    refine ⟨Srt.ins PgSI.lin h.srt hf, ?_, fun y => ?_, ?_⟩
    · have := h.len; have := hf.1; simp; omega
    · have hmem : y ∈ ys.take i ++ ⟨x, (cnt pre x : Int) + 1⟩ :: ys.drop i ↔ y = ⟨x, (cnt pre x : Int) + 1⟩ ∨ y ∈ ys := by
        conv => rhs; rw [← List.take_append_drop i ys]
        simp only [List.mem_append, List.mem_cons]
        constructor
        · rintro (h | h | h)
          · exact .inr (.inl h)
          · exact .inl h
          · exact .inr (.inr h)
        · rintro (h | h | h)
          · exact .inr (.inl h)
          · exact .inl h
          · exact .inr (.inr h)
      rw [cond_false, hmem, cnt_snoc]
      by_cases e : x = y.k
      · rw [← e, if_pos (SymD.beq_self x), h0]
        constructor
        · rintro (rfl | hy)
          · simp
          · exact absurd e.symm (hno y hy)
        · rintro ⟨_, hv⟩
          left
          obtain ⟨yk, yv⟩ := y
          dsimp only at e hv
          subst e
          simp at hv
          rw [hv]; rfl
      · rw [if_neg (SymD.beq_ne e), Nat.add_zero, ← h.mem]
        constructor
        · rintro (rfl | hy)
          · exact absurd rfl e
          · exact hy
        · exact .inr
    · rw [cond_false, List.map_append, List.map_cons, List.sum_append, List.sum_cons, h0]
      have hs := h.sum
      rw [← List.take_append_drop i ys, List.map_append, List.sum_append] at hs
      simp only [List.map_take, List.map_drop] at hs ⊢
      simp
      omega
  | true =>
    obtain ⟨y0, hy0, hc⟩ := hf.2.1 rfl
    have hk : y0.k = x := PgSI.cmp_key.1 hc
    have hi : i < ys.length := (List.getElem?_eq_some_iff.1 hy0).1
    have hv0 : y0.v = (cnt pre x : Int) := by have := ((h.mem y0).1 (List.mem_of_getElem? hy0)).2; rw [hk] at this; exact this
    rw [cond_true, hy0]
    simp only [Option.map_some, Option.getD_some, hk]
    refine ⟨Srt.set PgSI.lin h.srt hy0 (PgSI.cmp_key.2 hk), by have := h.len; simp; omega, fun y => ?_, ?_⟩
    · rw [cnt_snoc, List.mem_iff_getElem?]
      by_cases e : x = y.k
      · rw [← e, if_pos (SymD.beq_self x)]
        constructor
        · rintro ⟨j, hj⟩
          rw [List.getElem?_set] at hj
          by_cases hji : i = j
          · rw [if_pos hji, if_pos (by omega)] at hj
            cases hj
            exact ⟨by omega, by simp⟩
          · rw [if_neg hji] at hj
            have hz : PgSI.cmp y y0 = 0 := by show SymD.cmp y.k y0.k = 0; rw [← e, hk]; exact linSym.refl x
            exfalso
            by_cases hlt : j < i
            · have := h.srt j i y y0 hlt hj hy0; omega
            · have h1 := h.srt i j y0 y (by omega) hy0 hj
              have := PgSI.lin.swap y y0
              omega
        · rintro ⟨_, hv⟩
          refine ⟨i, ?_⟩
          rw [List.getElem?_set, if_pos rfl, if_pos hi]
          obtain ⟨yk, yv⟩ := y
          dsimp only at e hv
          subst e
          rw [hv]; simp
      · rw [if_neg (SymD.beq_ne e), Nat.add_zero, ← h.mem, List.mem_iff_getElem?]
        constructor
        · rintro ⟨j, hj⟩
          rw [List.getElem?_set] at hj
          by_cases hji : i = j
          · rw [if_pos hji, if_pos (by omega)] at hj
            cases hj
            exact absurd rfl e
          · rw [if_neg hji] at hj
            exact ⟨j, hj⟩
        · rintro ⟨j, hj⟩
          refine ⟨j, ?_⟩
          rw [List.getElem?_set, if_neg]
          · exact hj
          · intro hij
            subst hij
            rw [hy0] at hj
            cases hj
            exact e hk.symm
    · have hs := h.sum
      rw [List.set_eq_take_append_cons_drop, if_pos hi]
      have hsp : ys = ys.take i ++ y0 :: ys.drop (i + 1) := by
        have h2 : ys.drop i = y0 :: ys.drop (i + 1) := by
          rw [List.drop_eq_getElem_cons hi]
          rw [List.getElem?_eq_getElem hi] at hy0
          cases hy0; rfl
        rw [← h2, List.take_append_drop]
      rw [hsp, List.map_append, List.map_cons, List.sum_append, List.sum_cons, hv0] at hs
      rw [List.map_append, List.map_cons, List.sum_append, List.sum_cons]
      simp only [List.map_take, List.map_drop] at hs ⊢
      simp
      omega
end Go.Proofs.Ytlognaddmbolgaa
