/- Parts of a proof, in order. -/
import Derived.Test.YteokgobeafnpoaaZA3

set_option linter.unusedSimpArgs false
set_option linter.unusedVariables false
/- The document's answers on what goals depend on: the walks. -/
namespace Go.Proofs.Yteokgobeafnpoaa
open Go Go.Sl
attribute [local irreducible] Exit.then Exit.inBlock Code.wpIn roundPost bodyPostM runL Ret Meets MeetsD Begin

theorem cmpN_lt {a b : NumD} : NumD.cmp a b < 0 ↔ a.n < b.n := by
  simp only [NumD.cmp, cmpI]
  constructor
  · intro h; split at h
    · assumption
    · split at h <;> omega
  · intro h; rw [if_pos h]; decide
theorem cmpN_gt {a b : NumD} : 0 < NumD.cmp a b ↔ b.n < a.n := by
  simp only [NumD.cmp, cmpI]
  constructor
  · intro h; split at h
    · omega
    · split at h <;> omega
  · intro h; rw [if_neg (by omega), if_pos h]; decide
/-! ### Is a number one of these? -/
def hasI (l : List Int) (x : Int) : Bool := l.any fun y => y == x
theorem hasI_iff {l : List Int} {x : Int} : hasI l x = true ↔ x ∈ l := by simp [hasI]
theorem hasI_num (ys : List NumD) (x : Int) : hasI (ys.map NumD.n) x = hasC NumD.cmp ys ⟨x⟩ := by
  rw [Bool.eq_iff_iff, hasI_iff, hasC_num, List.mem_map]
  constructor
  · rintro ⟨y, hy, rfl⟩; exact hy
  · intro h; exact ⟨_, h, rfl⟩
theorem HasQ_spec (U : Option Addr) (u m : Nat) (l : List Int) (t : Int) (hm : l.length = m) (hl : m ≤ 1000000) {r : Bool} (hr : hasI l t = r) : Ctr Try.prog 18 [.slice U m u, .int .i64 t] [psl encI 1 U l] (fun v M => v = .bool r ∧ M = []) := by
  refine spec_of Try.func18 rfl Try.ntmps18 rfl fun w0 F => ?_
  -- hide
  -- ponder/ponderref10.Has
  subst hm
  subst hr
  repeat (first | refine g_endt ?_ | refine g_end ?_ | refine g_then ?_ | refine g_in_normal ?_ | refine g_then_ret ?_ | refine g_in_ret ?_ | refine g_then_exit ?_ | refine g_in_exit rfl ?_ | refine g_in_exit_ne (by decide) ?_ | refine g_seq ?_ | refine g_region ?_ | refine g_block ?_ | refine g_ret ?_ | refine g_return_n ?_ | refine g_exit ?_ | refine g_skip ?_)
  refine g_hideR fun Q_ hQ_ => ?_
  refine o_assign ?_
  refine g_end (G.imp (hQ_ .normal _) ?_)
  clear hQ_ Q_
  try refine g_then ?_
  repeat (first | refine g_endt ?_ | refine g_end ?_ | refine g_then ?_ | refine g_in_normal ?_ | refine g_then_ret ?_ | refine g_in_ret ?_ | refine g_then_exit ?_ | refine g_in_exit rfl ?_ | refine g_in_exit_ne (by decide) ?_ | refine g_seq ?_ | refine g_region ?_ | refine g_block ?_ | refine g_ret ?_ | refine g_return_n ?_ | refine g_exit ?_ | refine g_skip ?_)
  refine g_hideR fun Q_ hQ_ => ?_
  refine o_assign ?_
  refine g_end (G.imp (hQ_ .normal _) ?_)
  clear hQ_ Q_
  try refine g_then ?_
  repeat (first | refine g_endt ?_ | refine g_end ?_ | refine g_then ?_ | refine g_in_normal ?_ | refine g_then_ret ?_ | refine g_in_ret ?_ | refine g_then_exit ?_ | refine g_in_exit rfl ?_ | refine g_in_exit_ne (by decide) ?_ | refine g_seq ?_ | refine g_region ?_ | refine g_block ?_ | refine g_ret ?_ | refine g_return_n ?_ | refine g_exit ?_ | refine g_skip ?_)
  refine g_loop (σ := {i : Nat // i ≤ l.length ∧ ∀ x ∈ l.take i, x ≠ t}) (S := fun i => [(0, .slice U l.length u), (1, .int .i64 t), (5, .int .i64 (i.1 : Int))]) (H := fun _ => [psl encI 1 U l]) (μ := fun i => l.length - i.1) (s0 := ⟨0, Nat.zero_le _, by simp⟩) (Sat.mem ⟨rfl, rfl, rfl, trivial⟩) ?_
  rintro ⟨i, hi, hne⟩ ρ'
  dsimp only at hi hne ⊢
  repeat (first | refine g_endt ?_ | refine g_end ?_ | refine g_then ?_ | refine g_in_normal ?_ | refine g_then_ret ?_ | refine g_in_ret ?_ | refine g_then_exit ?_ | refine g_in_exit rfl ?_ | refine g_in_exit_ne (by decide) ?_ | refine g_seq ?_ | refine g_region ?_ | refine g_block ?_ | refine g_ret ?_ | refine g_return_n ?_ | refine g_exit ?_ | refine g_skip ?_)
  refine g_hideR fun Q_ hQ_ => ?_
  refine o_move ?_
  refine o_move ?_
  refine o_len rfl rfl ?_
  refine o_lss rfl rfl ?_
  refine g_end (G.imp (hQ_ .normal _) ?_)
  clear hQ_ Q_
  try refine g_then ?_
  by_cases hin : i < l.length
  · first | refine g_seq (g_cond_t rfl (by first | rfl | (simp; done) | (simp; omega) | (simp; assumption)) ?_) | refine g_cond_t rfl (by first | rfl | (simp; done) | (simp; omega) | (simp; assumption)) ?_
    obtain ⟨x, hx⟩ : ∃ x, l[i]? = some x := ⟨_, List.getElem?_eq_getElem hin⟩
    by_cases hxt : x = t
    · skip
      repeat (first | refine g_endt ?_ | refine g_end ?_ | refine g_then ?_ | refine g_in_normal ?_ | refine g_then_ret ?_ | refine g_in_ret ?_ | refine g_then_exit ?_ | refine g_in_exit rfl ?_ | refine g_in_exit_ne (by decide) ?_ | refine g_seq ?_ | refine g_region ?_ | refine g_block ?_ | refine g_ret ?_ | refine g_return_n ?_ | refine g_exit ?_ | refine g_skip ?_)
      refine g_hideR fun Q_ hQ_ => ?_
      refine o_move ?_
      refine o_move ?_
      refine o_indexR (ys := l) (i := i) rfl rfl rfl hin rfl rfl ?_
      refine o_loadE0 (ys := l) (v := .int .i64 x) rfl hx rfl ?_
      refine o_move ?_
      refine o_eqlT (t := true) rfl rfl (by simpa using hxt) ?_
      refine g_end (G.imp (hQ_ .normal _) ?_)
      clear hQ_ Q_
      try refine g_then ?_
      first | refine g_seq (g_cond_t rfl (by first | rfl | (simp; done) | (simp; omega) | (simp; assumption)) ?_) | refine g_cond_t rfl (by first | rfl | (simp; done) | (simp; omega) | (simp; assumption)) ?_
      repeat (first | refine g_endt ?_ | refine g_end ?_ | refine g_then ?_ | refine g_in_normal ?_ | refine g_then_ret ?_ | refine g_in_ret ?_ | refine g_then_exit ?_ | refine g_in_exit rfl ?_ | refine g_in_exit_ne (by decide) ?_ | refine g_seq ?_ | refine g_region ?_ | refine g_block ?_ | refine g_ret ?_ | refine g_return_n ?_ | refine g_exit ?_ | refine g_skip ?_)
      refine g_hideR fun Q_ hQ_ => ?_
      refine o_assign ?_
      refine g_end (G.imp (hQ_ .normal _) ?_)
      clear hQ_ Q_
      try refine g_then ?_
      repeat (first | refine g_endt ?_ | refine g_end ?_ | refine g_then ?_ | refine g_in_normal ?_ | refine g_then_ret ?_ | refine g_in_ret ?_ | refine g_then_exit ?_ | refine g_in_exit rfl ?_ | refine g_in_exit_ne (by decide) ?_ | refine g_seq ?_ | refine g_region ?_ | refine g_block ?_ | refine g_ret ?_ | refine g_return_n ?_ | refine g_exit ?_ | refine g_skip ?_)
      have : hasI l t = true := hasI_iff.2 (hxt ▸ List.mem_of_getElem? hx)
      rw [this]
      exact ret1 (K := []) rfl (resT rfl) ⟨rfl, rfl⟩
    · skip
      repeat (first | refine g_endt ?_ | refine g_end ?_ | refine g_then ?_ | refine g_in_normal ?_ | refine g_then_ret ?_ | refine g_in_ret ?_ | refine g_then_exit ?_ | refine g_in_exit rfl ?_ | refine g_in_exit_ne (by decide) ?_ | refine g_seq ?_ | refine g_region ?_ | refine g_block ?_ | refine g_ret ?_ | refine g_return_n ?_ | refine g_exit ?_ | refine g_skip ?_)
      refine g_hideR fun Q_ hQ_ => ?_
      refine o_move ?_
      refine o_move ?_
      refine o_indexR (ys := l) (i := i) rfl rfl rfl hin rfl rfl ?_
      refine o_loadE0 (ys := l) (v := .int .i64 x) rfl hx rfl ?_
      refine o_move ?_
      refine o_eqlT (t := false) rfl rfl (by simpa using hxt) ?_
      refine g_end (G.imp (hQ_ .normal _) ?_)
      clear hQ_ Q_
      try refine g_then ?_
      first | refine g_seq (g_cond_f rfl (by first | rfl | (simp; done) | (simp; omega) | (simp; assumption)) ?_) | refine g_cond_f rfl (by first | rfl | (simp; done) | (simp; omega) | (simp; assumption)) ?_
      repeat (first | refine g_endt ?_ | refine g_end ?_ | refine g_then ?_ | refine g_in_normal ?_ | refine g_then_ret ?_ | refine g_in_ret ?_ | refine g_then_exit ?_ | refine g_in_exit rfl ?_ | refine g_in_exit_ne (by decide) ?_ | refine g_seq ?_ | refine g_region ?_ | refine g_block ?_ | refine g_ret ?_ | refine g_return_n ?_ | refine g_exit ?_ | refine g_skip ?_)
      repeat (first | refine g_endt ?_ | refine g_end ?_ | refine g_then ?_ | refine g_in_normal ?_ | refine g_then_ret ?_ | refine g_in_ret ?_ | refine g_then_exit ?_ | refine g_in_exit rfl ?_ | refine g_in_exit_ne (by decide) ?_ | refine g_seq ?_ | refine g_region ?_ | refine g_block ?_ | refine g_ret ?_ | refine g_return_n ?_ | refine g_exit ?_ | refine g_skip ?_)
      refine g_hideR fun Q_ hQ_ => ?_
      refine o_move ?_
      refine o_add (c := ((i + 1 : Nat) : Int)) rfl rfl (by omega) (by omega) (by omega) ?_
      refine o_assign ?_
      refine g_end (G.imp (hQ_ .normal _) ?_)
      clear hQ_ Q_
      try refine g_then ?_
      repeat (first | refine g_endt ?_ | refine g_end ?_ | refine g_then ?_ | refine g_in_normal ?_ | refine g_then_ret ?_ | refine g_in_ret ?_ | refine g_then_exit ?_ | refine g_in_exit rfl ?_ | refine g_in_exit_ne (by decide) ?_ | refine g_seq ?_ | refine g_region ?_ | refine g_block ?_ | refine g_ret ?_ | refine g_return_n ?_ | refine g_exit ?_ | refine g_skip ?_)
      exact g_meets ⟨i + 1, hin, fun y hy => by
        rw [List.take_add_one, hx] at hy
        rcases List.mem_append.1 hy with hy | hy
        · exact hne y hy
        · simp at hy; subst hy; exact hxt⟩ (by show l.length - (i + 1) < l.length - i; omega) (Sat.mem ⟨rfl, rfl, rfl, trivial⟩)
  · first | refine g_seq (g_cond_f rfl (by simp; omega) ?_) | refine g_cond_f rfl (by simp; omega) ?_
    repeat (first | refine g_endt ?_ | refine g_end ?_ | refine g_then ?_ | refine g_in_normal ?_ | refine g_then_ret ?_ | refine g_in_ret ?_ | refine g_then_exit ?_ | refine g_in_exit rfl ?_ | refine g_in_exit_ne (by decide) ?_ | refine g_seq ?_ | refine g_region ?_ | refine g_block ?_ | refine g_ret ?_ | refine g_return_n ?_ | refine g_exit ?_ | refine g_skip ?_)
    refine g_hideR fun Q_ hQ_ => ?_
    refine o_assign ?_
    refine g_end (G.imp (hQ_ .normal _) ?_)
    clear hQ_ Q_
    try refine g_then ?_
    repeat (first | refine g_endt ?_ | refine g_end ?_ | refine g_then ?_ | refine g_in_normal ?_ | refine g_then_ret ?_ | refine g_in_ret ?_ | refine g_then_exit ?_ | refine g_in_exit rfl ?_ | refine g_in_exit_ne (by decide) ?_ | refine g_seq ?_ | refine g_region ?_ | refine g_block ?_ | refine g_ret ?_ | refine g_return_n ?_ | refine g_exit ?_ | refine g_skip ?_)
    rw [List.take_of_length_le (by omega)] at hne
    have : hasI l t = false := Bool.eq_false_iff.2 fun h => hne t (hasI_iff.1 h) rfl
    rw [this]
    exact ret1 (K := []) rfl (resT rfl) ⟨rfl, rfl⟩
/-! ### Rising numbers, with one more -/
theorem posN {ys : List NumD} {x : Int} {i : Nat} (hs : Srt NumD.cmp ys) (hn : hasC NumD.cmp ys ⟨x⟩ = false) (hi : i ≤ ys.length) (hup : ∀ (j : Nat) (y : NumD), i ≤ j → ys[j]? = some y → x < y.n) (hlow : ∀ y, 0 < i → ys[i - 1]? = some y → ¬ x < y.n) : insC NumD.cmp ys ⟨x⟩ = ys.take i ++ ⟨x⟩ :: ys.drop i := by
  have hf : FindR NumD.cmp ys ⟨x⟩ i false := ⟨hi, fun e => (by cases e), fun _ => ⟨fun j y hj hy => ?_, fun j y hj hy => cmpN_gt.2 (hup j y hj hy)⟩⟩
  · rw [← insC_of linNum hs hf]; rfl
  · obtain ⟨z, hz⟩ : ∃ z, ys[i - 1]? = some z := ⟨_, List.getElem?_eq_getElem (by omega)⟩
    have h1 := hlow z (by omega) hz
    have h2 : z.n ≠ x := fun e => by
      have : hasC NumD.cmp ys ⟨x⟩ = true := hasC_num.2 (by rw [← e]; exact List.mem_of_getElem? hz)
      rw [hn] at this; cases this
    have h3 : z.n < x := by omega
    by_cases e2 : j = i - 1
    · subst e2; rw [hz] at hy; cases hy; exact cmpN_lt.2 h3
    · exact linNum.trans y z ⟨x⟩ (hs j (i - 1) y z (by omega) hy hz) (cmpN_lt.2 h3)
set_option maxHeartbeats 1000000 in
theorem Rise_spec (K : Option Addr) (n c : Nat) (ys : List NumD) (x : Int) (hs : Srt NumD.cmp ys) (hl : ys.length = n) (hc : n ≤ c) (hm : n ≤ 100000) : Ctr Try.prog 57 [.slice K n c, .int .i64 x] [psl encI 1 K (ys.map NumD.n)]
    (fun v M => ∃ S d, (insC NumD.cmp ys ⟨x⟩).length ≤ d ∧ v = .slice S (insC NumD.cmp ys ⟨x⟩).length d ∧ M = [psl encI 1 S ((insC NumD.cmp ys ⟨x⟩).map NumD.n)]) := by
  refine spec_of Try.func57 rfl Try.ntmps57 rfl fun w0 F => ?_
  -- hide
  -- ponder/ponderref10.Rise
  have hml : (ys.map NumD.n).length = n := by simpa using hl
  obtain ⟨r, hr⟩ : ∃ r, hasC NumD.cmp ys ⟨x⟩ = r := ⟨_, rfl⟩
  have hr2 : hasI (ys.map NumD.n) x = r := by rw [hasI_num]; exact hr
  repeat (first | refine g_endt ?_ | refine g_end ?_ | refine g_then ?_ | refine g_in_normal ?_ | refine g_then_ret ?_ | refine g_in_ret ?_ | refine g_then_exit ?_ | refine g_in_exit rfl ?_ | refine g_in_exit_ne (by decide) ?_ | refine g_seq ?_ | refine g_region ?_ | refine g_block ?_ | refine g_ret ?_ | refine g_return_n ?_ | refine g_exit ?_ | refine g_skip ?_)
  refine g_hideR fun Q_ hQ_ => ?_
  refine o_assign ?_
  refine g_end (G.imp (hQ_ .normal _) ?_)
  clear hQ_ Q_
  try refine g_then ?_
  repeat (first | refine g_endt ?_ | refine g_end ?_ | refine g_then ?_ | refine g_in_normal ?_ | refine g_then_ret ?_ | refine g_in_ret ?_ | refine g_then_exit ?_ | refine g_in_exit rfl ?_ | refine g_in_exit_ne (by decide) ?_ | refine g_seq ?_ | refine g_region ?_ | refine g_block ?_ | refine g_ret ?_ | refine g_return_n ?_ | refine g_exit ?_ | refine g_skip ?_)
  refine g_hideR fun Q_ hQ_ => ?_
  refine o_move ?_
  refine o_move ?_
  refine o_callp (HasQ_spec K c n (ys.map NumD.n) x hml (by omega) hr2) rfl rfl ?_
  rintro _ _ ⟨rfl, rfl⟩
  refine g_end (G.imp (hQ_ .normal _) ?_)
  clear hQ_ Q_
  try refine g_then ?_
  cases r with
  | true =>
    have he : insC NumD.cmp ys ⟨x⟩ = ys := by unfold insC; rw [if_pos (show (ys.any fun y => decide (NumD.cmp y ⟨x⟩ = 0)) = true from hr)]
    first | refine g_seq (g_cond_t rfl (by first | rfl | (simp; done) | (simp; omega) | (simp; assumption)) ?_) | refine g_cond_t rfl (by first | rfl | (simp; done) | (simp; omega) | (simp; assumption)) ?_
    repeat (first | refine g_endt ?_ | refine g_end ?_ | refine g_then ?_ | refine g_in_normal ?_ | refine g_then_ret ?_ | refine g_in_ret ?_ | refine g_then_exit ?_ | refine g_in_exit rfl ?_ | refine g_in_exit_ne (by decide) ?_ | refine g_seq ?_ | refine g_region ?_ | refine g_block ?_ | refine g_ret ?_ | refine g_return_n ?_ | refine g_exit ?_ | refine g_skip ?_)
    refine g_hideR fun Q_ hQ_ => ?_
    refine o_move ?_
    refine o_assign ?_
    refine g_end (G.imp (hQ_ .normal _) ?_)
    clear hQ_ Q_
    try refine g_then ?_
    repeat (first | refine g_endt ?_ | refine g_end ?_ | refine g_then ?_ | refine g_in_normal ?_ | refine g_then_ret ?_ | refine g_in_ret ?_ | refine g_then_exit ?_ | refine g_in_exit rfl ?_ | refine g_in_exit_ne (by decide) ?_ | refine g_seq ?_ | refine g_region ?_ | refine g_block ?_ | refine g_ret ?_ | refine g_return_n ?_ | refine g_exit ?_ | refine g_skip ?_)
    exact ret1 (K := [psl encI 1 K (ys.map NumD.n)]) rfl (resT (v := .slice K n c) rfl) ⟨K, c, by rw [he]; omega, by rw [he, hl], by rw [he]⟩
  | false =>
    first | refine g_seq (g_cond_f rfl (by first | rfl | (simp; done) | (simp; omega) | (simp; assumption)) ?_) | refine g_cond_f rfl (by first | rfl | (simp; done) | (simp; omega) | (simp; assumption)) ?_
    repeat (first | refine g_endt ?_ | refine g_end ?_ | refine g_then ?_ | refine g_in_normal ?_ | refine g_then_ret ?_ | refine g_in_ret ?_ | refine g_then_exit ?_ | refine g_in_exit rfl ?_ | refine g_in_exit_ne (by decide) ?_ | refine g_seq ?_ | refine g_region ?_ | refine g_block ?_ | refine g_ret ?_ | refine g_return_n ?_ | refine g_exit ?_ | refine g_skip ?_)
    refine g_hideR fun Q_ hQ_ => ?_
    refine o_move ?_
    refine o_len rfl rfl ?_
    refine o_assign ?_
    refine g_end (G.imp (hQ_ .normal _) ?_)
    clear hQ_ Q_
    try refine g_then ?_
    repeat (first | refine g_endt ?_ | refine g_end ?_ | refine g_then ?_ | refine g_in_normal ?_ | refine g_then_ret ?_ | refine g_in_ret ?_ | refine g_then_exit ?_ | refine g_in_exit rfl ?_ | refine g_in_exit_ne (by decide) ?_ | refine g_seq ?_ | refine g_region ?_ | refine g_block ?_ | refine g_ret ?_ | refine g_return_n ?_ | refine g_exit ?_ | refine g_skip ?_)
    refine g_cutb (σ := Nat) (ds' := []) (T := fun i => [(0, .slice K n c), (1, .int .i64 x), (5, .int .i64 (i : Int))]) (H := fun _ => [psl encI 1 K (ys.map NumD.n)])
      (ok := fun i => i ≤ ys.length ∧ (∀ (j : Nat) (y : NumD), i ≤ j → ys[j]? = some y → x < y.n) ∧ ∀ y, 0 < i → ys[i - 1]? = some y → ¬ x < y.n) ?_ ?_
    · refine g_loop (σ := {i : Nat // i ≤ n ∧ ∀ (j : Nat) (y : NumD), i ≤ j → ys[j]? = some y → x < y.n}) (S := fun i => [(0, .slice K n c), (1, .int .i64 x), (5, .int .i64 (i.1 : Int))])
        (H := fun _ => [psl encI 1 K (ys.map NumD.n)]) (μ := fun i => i.1) (s0 := ⟨n, Nat.le_refl _, fun j y h hy => by rw [List.getElem?_eq_none (by omega)] at hy; cases hy⟩) (Sat.mem ⟨rfl, rfl, rfl, trivial⟩) ?_
      rintro ⟨i, hi, hup⟩ ρ'
      dsimp only at hi hup ⊢
      by_cases h : 0 < i
      · have hil : i - 1 < ys.length := by omega
        obtain ⟨y, hy⟩ : ∃ y, ys[i - 1]? = some y := ⟨_, List.getElem?_eq_getElem hil⟩
        have hy2 : (ys.map NumD.n)[i - 1]? = some y.n := by rw [List.getElem?_map, hy]; rfl
        repeat (first | refine g_endt ?_ | refine g_end ?_ | refine g_then ?_ | refine g_in_normal ?_ | refine g_then_ret ?_ | refine g_in_ret ?_ | refine g_then_exit ?_ | refine g_in_exit rfl ?_ | refine g_in_exit_ne (by decide) ?_ | refine g_seq ?_ | refine g_region ?_ | refine g_block ?_ | refine g_ret ?_ | refine g_return_n ?_ | refine g_exit ?_ | refine g_skip ?_)
        refine g_hideR fun Q_ hQ_ => ?_
        refine o_move ?_
        refine o_gtr rfl rfl ?_
        rw [show decide ((i : Int) > 0) = true from decide_eq_true (by omega)]
        refine o_move ?_
        first | (refine o_want rfl rfl rfl rfl rfl ?_; refine o_move ?_) | refine o_unwanted rfl rfl rfl rfl rfl ?_ | refine o_undef rfl rfl rfl ?_
        first | (refine o_want rfl rfl rfl rfl rfl ?_; refine o_move ?_) | refine o_unwanted rfl rfl rfl rfl rfl ?_ | refine o_undef rfl rfl rfl ?_
        refine o_want rfl rfl rfl rfl rfl (o_sub (c := ((i - 1 : Nat) : Int)) rfl rfl (by omega) (by omega) (by omega) ?_)
        refine o_want rfl rfl rfl rfl rfl (o_indexR (ys := ys.map NumD.n) (i := i - 1) rfl rfl rfl (by omega) hml rfl ?_)
        refine o_want rfl rfl rfl rfl rfl (o_loadE0 (ys := ys.map NumD.n) (v := .int .i64 y.n) rfl hy2 rfl ?_)
        first | (refine o_want rfl rfl rfl rfl rfl ?_; refine o_move ?_) | refine o_unwanted rfl rfl rfl rfl rfl ?_ | refine o_undef rfl rfl rfl ?_
        first | (refine o_want rfl rfl rfl rfl rfl ?_; refine o_gtr rfl rfl ?_) | refine o_unwanted rfl rfl rfl rfl rfl ?_ | refine o_undef rfl rfl rfl ?_
        first | refine o_pick_t rfl rfl ?_ | refine o_pick_f rfl rfl ?_
        refine g_end (G.imp (hQ_ .normal _) ?_)
        clear hQ_ Q_
        try refine g_then ?_
        by_cases hlt : x < y.n
        · first | refine g_seq (g_cond_t rfl (by simpa using hlt) ?_) | refine g_cond_t rfl (by simpa using hlt) ?_
          repeat (first | refine g_endt ?_ | refine g_end ?_ | refine g_then ?_ | refine g_in_normal ?_ | refine g_then_ret ?_ | refine g_in_ret ?_ | refine g_then_exit ?_ | refine g_in_exit rfl ?_ | refine g_in_exit_ne (by decide) ?_ | refine g_seq ?_ | refine g_region ?_ | refine g_block ?_ | refine g_ret ?_ | refine g_return_n ?_ | refine g_exit ?_ | refine g_skip ?_)
          repeat (first | refine g_endt ?_ | refine g_end ?_ | refine g_then ?_ | refine g_in_normal ?_ | refine g_then_ret ?_ | refine g_in_ret ?_ | refine g_then_exit ?_ | refine g_in_exit rfl ?_ | refine g_in_exit_ne (by decide) ?_ | refine g_seq ?_ | refine g_region ?_ | refine g_block ?_ | refine g_ret ?_ | refine g_return_n ?_ | refine g_exit ?_ | refine g_skip ?_)
          refine g_hideR fun Q_ hQ_ => ?_
          refine o_move ?_
          refine o_sub (c := ((i - 1 : Nat) : Int)) rfl rfl (by omega) (by omega) (by omega) ?_
          refine o_assign ?_
          refine g_end (G.imp (hQ_ .normal _) ?_)
          clear hQ_ Q_
          try refine g_then ?_
          repeat (first | refine g_endt ?_ | refine g_end ?_ | refine g_then ?_ | refine g_in_normal ?_ | refine g_then_ret ?_ | refine g_in_ret ?_ | refine g_then_exit ?_ | refine g_in_exit rfl ?_ | refine g_in_exit_ne (by decide) ?_ | refine g_seq ?_ | refine g_region ?_ | refine g_block ?_ | refine g_ret ?_ | refine g_return_n ?_ | refine g_exit ?_ | refine g_skip ?_)
          have hn : ∀ (j : Nat) (z : NumD), i - 1 ≤ j → ys[j]? = some z → x < z.n := fun j z hj hz => by
            by_cases e2 : j = i - 1
            · subst e2; rw [hy] at hz; cases hz; exact hlt
            · exact hup j z (by omega) hz
          exact g_meets (⟨i - 1, by omega, hn⟩) (by first | exact trivial | (dsimp only; omega)) (Sat.mem (by repeat (first | exact trivial | refine And.intro rfl ?_)))
        · first | refine g_seq (g_cond_f rfl (by simpa using hlt) ?_) | refine g_cond_f rfl (by simpa using hlt) ?_
          repeat (first | refine g_endt ?_ | refine g_end ?_ | refine g_then ?_ | refine g_in_normal ?_ | refine g_then_ret ?_ | refine g_in_ret ?_ | refine g_then_exit ?_ | refine g_in_exit rfl ?_ | refine g_in_exit_ne (by decide) ?_ | refine g_seq ?_ | refine g_region ?_ | refine g_block ?_ | refine g_ret ?_ | refine g_return_n ?_ | refine g_exit ?_ | refine g_skip ?_)
          exact g_meets i ⟨by omega, hup, fun z _ hz => by rw [hy] at hz; cases hz; exact hlt⟩ (Sat.mem ⟨rfl, rfl, rfl, trivial⟩)
      · have : i = 0 := by omega
        subst this
        repeat (first | refine g_endt ?_ | refine g_end ?_ | refine g_then ?_ | refine g_in_normal ?_ | refine g_then_ret ?_ | refine g_in_ret ?_ | refine g_then_exit ?_ | refine g_in_exit rfl ?_ | refine g_in_exit_ne (by decide) ?_ | refine g_seq ?_ | refine g_region ?_ | refine g_block ?_ | refine g_ret ?_ | refine g_return_n ?_ | refine g_exit ?_ | refine g_skip ?_)
        refine g_hideR fun Q_ hQ_ => ?_
        refine o_move ?_
        refine o_gtr rfl rfl ?_
        rw [show decide (((0 : Nat) : Int) > 0) = false from rfl]
        refine o_move ?_
        first | (refine o_want rfl rfl rfl rfl rfl ?_; refine o_move ?_) | refine o_unwanted rfl rfl rfl rfl rfl ?_ | refine o_undef rfl rfl rfl ?_
        first | (refine o_want rfl rfl rfl rfl rfl ?_; refine o_move ?_) | refine o_unwanted rfl rfl rfl rfl rfl ?_ | refine o_undef rfl rfl rfl ?_
        first | (refine o_want rfl rfl rfl rfl rfl ?_; refine o_sub rfl rfl rfl (by omega) (by omega) ?_) | refine o_unwanted rfl rfl rfl rfl rfl ?_ | refine o_undef rfl rfl rfl ?_
        first | (refine o_want rfl rfl rfl rfl rfl ?_; refine o_indexR rfl rfl rfl (by first | assumption | omega) (by first | rfl | assumption | omega) rfl ?_) | refine o_unwanted rfl rfl rfl rfl rfl ?_ | refine o_undef rfl rfl rfl ?_
        first | (refine o_want rfl rfl rfl rfl rfl ?_; (first | refine o_load1 rfl rfl ?_ | refine o_loadE0 rfl (by assumption) rfl ?_ | refine o_loadE1 rfl (by assumption) rfl ?_)) | refine o_unwanted rfl rfl rfl rfl rfl ?_ | refine o_undef rfl rfl rfl ?_
        first | (refine o_want rfl rfl rfl rfl rfl ?_; refine o_move ?_) | refine o_unwanted rfl rfl rfl rfl rfl ?_ | refine o_undef rfl rfl rfl ?_
        first | (refine o_want rfl rfl rfl rfl rfl ?_; refine o_gtr rfl rfl ?_) | refine o_unwanted rfl rfl rfl rfl rfl ?_ | refine o_undef rfl rfl rfl ?_
        first | refine o_pick_t rfl rfl ?_ | refine o_pick_f rfl rfl ?_
        refine g_end (G.imp (hQ_ .normal _) ?_)
        clear hQ_ Q_
        try refine g_then ?_
        first | refine g_seq (g_cond_f rfl (by first | rfl | (simp; done) | (simp; omega) | (simp; assumption)) ?_) | refine g_cond_f rfl (by first | rfl | (simp; done) | (simp; omega) | (simp; assumption)) ?_
        repeat (first | refine g_endt ?_ | refine g_end ?_ | refine g_then ?_ | refine g_in_normal ?_ | refine g_then_ret ?_ | refine g_in_ret ?_ | refine g_then_exit ?_ | refine g_in_exit rfl ?_ | refine g_in_exit_ne (by decide) ?_ | refine g_seq ?_ | refine g_region ?_ | refine g_block ?_ | refine g_ret ?_ | refine g_return_n ?_ | refine g_exit ?_ | refine g_skip ?_)
        exact g_meets 0 ⟨by omega, hup, fun z h0 _ => absurd h0 (Nat.lt_irrefl 0)⟩ (Sat.mem ⟨rfl, rfl, rfl, trivial⟩)
    · rintro i ρ' ⟨hi, hup, hlow⟩
      have he := posN hs hr hi hup hlow
      have hti : ((ys.map NumD.n).take i).length = i := by simp; omega
      have hdi : ((ys.map NumD.n).drop i).length = n - i := by simp; omega
      refine G.taken (S := K) (xs := ys.map NumD.n) (enc := encI) (sz := 1) i ?_
      refine G.nil_slice 3 encI 1 ?_
      repeat (first | refine g_endt ?_ | refine g_end ?_ | refine g_then ?_ | refine g_in_normal ?_ | refine g_then_ret ?_ | refine g_in_ret ?_ | refine g_then_exit ?_ | refine g_in_exit rfl ?_ | refine g_in_exit_ne (by decide) ?_ | refine g_seq ?_ | refine g_region ?_ | refine g_block ?_ | refine g_ret ?_ | refine g_return_n ?_ | refine g_exit ?_ | refine g_skip ?_)
      refine g_hideR fun Q_ hQ_ => ?_
      refine o_move ?_
      refine o_move ?_
      refine o_uptoP (k := i) rfl rfl rfl (by omega) ?_
      refine o_append0 (ys := (ys.map NumD.n).take i) rfl rfl rfl rfl hti (by rw [hti]; simp [maxLen]; omega) (by rw [hti]; omega) fun S2 c2 => ?_
      refine o_assign ?_
      refine g_end (G.imp (hQ_ .normal _) ?_)
      clear hQ_ Q_
      try refine g_then ?_
      repeat (first | refine g_endt ?_ | refine g_end ?_ | refine g_then ?_ | refine g_in_normal ?_ | refine g_then_ret ?_ | refine g_in_ret ?_ | refine g_then_exit ?_ | refine g_in_exit rfl ?_ | refine g_in_exit_ne (by decide) ?_ | refine g_seq ?_ | refine g_region ?_ | refine g_block ?_ | refine g_ret ?_ | refine g_return_n ?_ | refine g_exit ?_ | refine g_skip ?_)
      refine g_hideR fun Q_ hQ_ => ?_
      refine o_move ?_
      refine o_move ?_
      refine o_litP (e := 3) encI [x] #[.int .i64 (x)] (fun w => by kernel_rfl) (rfl) (by simp [maxLen]) fun _ => ?_
      refine o_append (xs := (ys.map NumD.n).take i) (ys := [x]) (by rw [hti]; rfl) rfl rfl rfl rfl (fun _ => .inr trivial) (by simp [maxLen]; omega) (by simp; omega) fun S3 c3 => ?_
      refine o_assign ?_
      refine g_end (G.imp (hQ_ .normal _) ?_)
      clear hQ_ Q_
      try refine g_then ?_
      refine G.dropped (S := K) (xs := ys.map NumD.n) (enc := encI) (sz := 1) c i (by omega) ?_
      repeat (first | refine g_endt ?_ | refine g_end ?_ | refine g_then ?_ | refine g_in_normal ?_ | refine g_then_ret ?_ | refine g_in_ret ?_ | refine g_then_exit ?_ | refine g_in_exit rfl ?_ | refine g_in_exit_ne (by decide) ?_ | refine g_seq ?_ | refine g_region ?_ | refine g_block ?_ | refine g_ret ?_ | refine g_return_n ?_ | refine g_exit ?_ | refine g_skip ?_)
      refine g_hideR fun Q_ hQ_ => ?_
      refine o_move ?_
      refine o_move ?_
      refine o_move ?_
      refine o_fromP (k := i) rfl rfl rfl (by omega) ?_
      refine o_append (xs := (ys.map NumD.n).take i ++ [x]) (ys := (ys.map NumD.n).drop i) (by simp only [List.length_append]; rfl) rfl rfl rfl hdi (fun _ => .inr trivial) (by simp [maxLen]; omega) (by simp; omega) fun S4 c4 => ?_
      refine o_assign ?_
      refine g_end (G.imp (hQ_ .normal _) ?_)
      clear hQ_ Q_
      try refine g_then ?_
      rw [show (ys.map NumD.n).take i ++ [x] ++ (ys.map NumD.n).drop i = (insC NumD.cmp ys ⟨x⟩).map NumD.n by rw [he]; simp [List.map_take, List.map_drop]]
      refine G.bring [osl 3 encI 1 S4 c4 ((insC NumD.cmp ys ⟨x⟩).map NumD.n)] ?_
      refine G.frzc fun hroom => ?_
      rw [List.length_map] at hroom
      repeat (first | refine g_endt ?_ | refine g_end ?_ | refine g_then ?_ | refine g_in_normal ?_ | refine g_then_ret ?_ | refine g_in_ret ?_ | refine g_then_exit ?_ | refine g_in_exit rfl ?_ | refine g_in_exit_ne (by decide) ?_ | refine g_seq ?_ | refine g_region ?_ | refine g_block ?_ | refine g_ret ?_ | refine g_return_n ?_ | refine g_exit ?_ | refine g_skip ?_)
      exact ret1 (K := [psl encI 1 S4 ((insC NumD.cmp ys ⟨x⟩).map NumD.n)]) rfl (resT (v := .slice S4 (((ys.map NumD.n).take i ++ [x]).length + ((ys.map NumD.n).drop i).length) c4) rfl) ⟨S4, c4, hroom, by rw [he]; simp only [List.length_append, List.length_cons, List.length_nil, hti, hdi, List.length_take, List.length_drop]; congr 1; omega, rfl⟩
/-! ### The reference's Deps -/
structure RfI (rs : List (RowG Int)) (T : DpT) : Prop where
  len : rs.length = 9
  row : ∀ (i : Nat) (q : RowG Int), rs[i]? = some q → q.zs = (T (i : Int)).map NumD.n ∧ q.zs.length = q.len ∧ q.len ≤ q.cap
abbrev rfC (r : Nat) (rs : List (RowG Int)) : SProp := cellsB r (rs.map RowG.val).toArray 51
def RefD (r : Nat) (T : DpT) : SProp := ex fun rs : List (RowG Int) => sl [pu (RfI rs T), rfC r rs, prowsG encI 1 rs]
section
variable {w0 : World} {A : SProp} {L M : List SProp} {Φ : World → Prop}
theorem openRf (r : Nat) (T : DpT) [tk : Take1 L (RefD r T) M] (h : ∀ rs, RfI rs T → G w0 A (rfC r rs :: prowsG encI 1 rs :: M) Φ) : G w0 A L Φ :=
  G.perm tk.perm (G.ex fun rs => G.open_sl (G.pu fun hi => h rs hi))
theorem shutRf (r : Nat) (T : DpT) (rs : List (RowG Int)) (hi : RfI rs T) [tk : Take L [rfC r rs, prowsG encI 1 rs] M] (h : G w0 A (RefD r T :: M) Φ) : G w0 A L Φ :=
  G.perm tk.perm (G.pu_in hi (G.ent (L := pu (RfI rs T) :: ([rfC r rs, prowsG encI 1 rs] ++ M)) (L' := RefD r T :: M)
    ((sl_append_to [pu (RfI rs T), rfC r rs, prowsG encI 1 rs] M).trans (Ent.star (show Ent _ (RefD r T) from fun _ _ x => ⟨rs, x⟩) (Ent.refl _))) h))
end
theorem RfI.nil : RfI (List.replicate 9 ⟨none, 0, 0, []⟩) dp0 := ⟨rfl, fun i q hq => by
  have := (List.mem_replicate.1 (List.mem_of_getElem? hq)).2
  subst this
  exact ⟨rfl, rfl, Nat.le_refl 0⟩⟩
theorem RfI.set {rs : List (RowG Int)} {T T' : DpT} (h : RfI rs T) {i : Nat} {q : RowG Int} (hq : q.zs = (T' (i : Int)).map NumD.n ∧ q.zs.length = q.len ∧ q.len ≤ q.cap) (ht : ∀ j : Nat, j ≠ i → T' (j : Int) = T (j : Int)) : RfI (rs.set i q) T' :=
  ⟨by rw [List.length_set]; exact h.len, fun j p hp => by
    rw [List.getElem?_set] at hp
    split at hp
    · rename_i e
      subst e
      split at hp
      · cases hp; exact hq
      · cases hp
    · rename_i e
      rw [ht j (fun e2 => e e2.symm)]
      exact h.row j p hp⟩
theorem RfI.cell {rs : List (RowG Int)} {T : DpT} {i : Nat} {q : RowG Int} (h : rs[i]? = some q) : ((rs.map RowG.val).toArray)[0 + i * 1]? = some (.slice q.a q.len q.cap) := by
  simp [h, RowG.val]
theorem RfI.get {rs : List (RowG Int)} {T : DpT} (h : RfI rs T) {i : Nat} (hi : i < 9) : ∃ q, rs[i]? = some q := ⟨_, List.getElem?_eq_getElem (by rw [h.len]; exact hi)⟩
theorem set_val {rs : List (RowG Int)} {i : Nat} {S : Option Addr} {n c : Nat} (q : RowG Int) (hi : i < rs.length) (hq : q.a = S ∧ q.len = n ∧ q.cap = c) : sto (rs.map RowG.val).toArray (0 + i * 1) #[.slice S n c] = ((rs.set i q).map RowG.val).toArray := by
  rw [sto_set _ _ _ (by simpa using hi), List.map_set]
  obtain ⟨rfl, rfl, rfl⟩ := hq
  rfl
theorem rf_room {rs : List (RowG Int)} {k : Nat} (h : rs.length = 9) (hk : k < 9) : Nat.ble (0 + 0 + k * 1 + 1) (rs.map RowG.val).toArray.size = true := by
  rw [Nat.ble_eq]; simp [h]; omega
set_option maxHeartbeats 1000000 in
theorem AddRf_spec (r : Nat) (T : DpT) (k : Int) (A : Option Addr) (n c : Nat) (l : List Int) (hl : l.length = n) (hn : n ≤ 1000) (hb : ∀ j, (T j).length ≤ 90000) (hs : ∀ j, Srt NumD.cmp (T j)) : Ctr Try.prog 42 [.pointer (some ⟨r, 0, none⟩), .int .i64 k, .slice A n c] [RefD r T, psl encI 1 A l]
    (fun v M => v = .bool (lvl k) ∧ M = [RefD r (addD T k (l.map NumD.mk)), psl encI 1 A l]) := by
  refine spec_of Try.func42 rfl Try.ntmps42 rfl fun w0 F => ?_
  -- hide
  -- (*ponder/ponderref10.Deps).Add
  repeat (first | refine g_endt ?_ | refine g_end ?_ | refine g_then ?_ | refine g_in_normal ?_ | refine g_then_ret ?_ | refine g_in_ret ?_ | refine g_then_exit ?_ | refine g_in_exit rfl ?_ | refine g_in_exit_ne (by decide) ?_ | refine g_seq ?_ | refine g_region ?_ | refine g_block ?_ | refine g_ret ?_ | refine g_return_n ?_ | refine g_exit ?_ | refine g_skip ?_)
  refine g_hideR fun Q_ hQ_ => ?_
  refine o_assign ?_
  refine g_end (G.imp (hQ_ .normal _) ?_)
  clear hQ_ Q_
  try refine g_then ?_
  by_cases h1 : k < 2
  · skip
    repeat (first | refine g_endt ?_ | refine g_end ?_ | refine g_then ?_ | refine g_in_normal ?_ | refine g_then_ret ?_ | refine g_in_ret ?_ | refine g_then_exit ?_ | refine g_in_exit rfl ?_ | refine g_in_exit_ne (by decide) ?_ | refine g_seq ?_ | refine g_region ?_ | refine g_block ?_ | refine g_ret ?_ | refine g_return_n ?_ | refine g_exit ?_ | refine g_skip ?_)
    refine g_hideR fun Q_ hQ_ => ?_
    refine o_move ?_
    refine o_lss rfl rfl ?_
    rw [decide_eq_true h1]
    refine o_move ?_
    first | (refine o_want rfl rfl rfl rfl rfl ?_; refine o_move ?_) | refine o_unwanted rfl rfl rfl rfl rfl ?_ | refine o_undef rfl rfl rfl ?_
    first | (refine o_want rfl rfl rfl rfl rfl ?_; refine o_gtr rfl rfl ?_) | refine o_unwanted rfl rfl rfl rfl rfl ?_ | refine o_undef rfl rfl rfl ?_
    first | refine o_pick_t rfl rfl ?_ | refine o_pick_f rfl rfl ?_
    refine g_end (G.imp (hQ_ .normal _) ?_)
    clear hQ_ Q_
    try refine g_then ?_
    first | refine g_seq (g_cond_t rfl (by first | rfl | (simp; done) | (simp; omega) | (simp; assumption)) ?_) | refine g_cond_t rfl (by first | rfl | (simp; done) | (simp; omega) | (simp; assumption)) ?_
    repeat (first | refine g_endt ?_ | refine g_end ?_ | refine g_then ?_ | refine g_in_normal ?_ | refine g_then_ret ?_ | refine g_in_ret ?_ | refine g_then_exit ?_ | refine g_in_exit rfl ?_ | refine g_in_exit_ne (by decide) ?_ | refine g_seq ?_ | refine g_region ?_ | refine g_block ?_ | refine g_ret ?_ | refine g_return_n ?_ | refine g_exit ?_ | refine g_skip ?_)
    refine g_hideR fun Q_ hQ_ => ?_
    refine o_assign ?_
    refine g_end (G.imp (hQ_ .normal _) ?_)
    clear hQ_ Q_
    try refine g_then ?_
    repeat (first | refine g_endt ?_ | refine g_end ?_ | refine g_then ?_ | refine g_in_normal ?_ | refine g_then_ret ?_ | refine g_in_ret ?_ | refine g_then_exit ?_ | refine g_in_exit rfl ?_ | refine g_in_exit_ne (by decide) ?_ | refine g_seq ?_ | refine g_region ?_ | refine g_block ?_ | refine g_ret ?_ | refine g_return_n ?_ | refine g_exit ?_ | refine g_skip ?_)
    have hl : lvl k = false := by unfold lvl; exact decide_eq_false (by omega)
    exact ret1 (K := [RefD r T, psl encI 1 A l]) rfl (resT (v := .bool false) rfl) ⟨by rw [hl], by rw [addD_off hl]⟩
  by_cases h2 : 8 < k
  · skip
    repeat (first | refine g_endt ?_ | refine g_end ?_ | refine g_then ?_ | refine g_in_normal ?_ | refine g_then_ret ?_ | refine g_in_ret ?_ | refine g_then_exit ?_ | refine g_in_exit rfl ?_ | refine g_in_exit_ne (by decide) ?_ | refine g_seq ?_ | refine g_region ?_ | refine g_block ?_ | refine g_ret ?_ | refine g_return_n ?_ | refine g_exit ?_ | refine g_skip ?_)
    refine g_hideR fun Q_ hQ_ => ?_
    refine o_move ?_
    refine o_lss rfl rfl ?_
    rw [decide_eq_false h1]
    refine o_move ?_
    first | (refine o_want rfl rfl rfl rfl rfl ?_; refine o_move ?_) | refine o_unwanted rfl rfl rfl rfl rfl ?_ | refine o_undef rfl rfl rfl ?_
    first | (refine o_want rfl rfl rfl rfl rfl ?_; refine o_gtr rfl rfl ?_) | refine o_unwanted rfl rfl rfl rfl rfl ?_ | refine o_undef rfl rfl rfl ?_
    rw [show decide (k > 8) = true from decide_eq_true h2]
    first | refine o_pick_t rfl rfl ?_ | refine o_pick_f rfl rfl ?_
    refine g_end (G.imp (hQ_ .normal _) ?_)
    clear hQ_ Q_
    try refine g_then ?_
    first | refine g_seq (g_cond_t rfl (by first | rfl | (simp; done) | (simp; omega) | (simp; assumption)) ?_) | refine g_cond_t rfl (by first | rfl | (simp; done) | (simp; omega) | (simp; assumption)) ?_
    repeat (first | refine g_endt ?_ | refine g_end ?_ | refine g_then ?_ | refine g_in_normal ?_ | refine g_then_ret ?_ | refine g_in_ret ?_ | refine g_then_exit ?_ | refine g_in_exit rfl ?_ | refine g_in_exit_ne (by decide) ?_ | refine g_seq ?_ | refine g_region ?_ | refine g_block ?_ | refine g_ret ?_ | refine g_return_n ?_ | refine g_exit ?_ | refine g_skip ?_)
    refine g_hideR fun Q_ hQ_ => ?_
    refine o_assign ?_
    refine g_end (G.imp (hQ_ .normal _) ?_)
    clear hQ_ Q_
    try refine g_then ?_
    repeat (first | refine g_endt ?_ | refine g_end ?_ | refine g_then ?_ | refine g_in_normal ?_ | refine g_then_ret ?_ | refine g_in_ret ?_ | refine g_then_exit ?_ | refine g_in_exit rfl ?_ | refine g_in_exit_ne (by decide) ?_ | refine g_seq ?_ | refine g_region ?_ | refine g_block ?_ | refine g_ret ?_ | refine g_return_n ?_ | refine g_exit ?_ | refine g_skip ?_)
    have hl : lvl k = false := by unfold lvl; exact decide_eq_false (by omega)
    exact ret1 (K := [RefD r T, psl encI 1 A l]) rfl (resT (v := .bool false) rfl) ⟨by rw [hl], by rw [addD_off hl]⟩
  have hlv : lvl k = true := lvl_iff.2 ⟨by omega, by omega⟩
  repeat (first | refine g_endt ?_ | refine g_end ?_ | refine g_then ?_ | refine g_in_normal ?_ | refine g_then_ret ?_ | refine g_in_ret ?_ | refine g_then_exit ?_ | refine g_in_exit rfl ?_ | refine g_in_exit_ne (by decide) ?_ | refine g_seq ?_ | refine g_region ?_ | refine g_block ?_ | refine g_ret ?_ | refine g_return_n ?_ | refine g_exit ?_ | refine g_skip ?_)
  refine g_hideR fun Q_ hQ_ => ?_
  refine o_move ?_
  refine o_lss rfl rfl ?_
  rw [decide_eq_false h1]
  refine o_move ?_
  first | (refine o_want rfl rfl rfl rfl rfl ?_; refine o_move ?_) | refine o_unwanted rfl rfl rfl rfl rfl ?_ | refine o_undef rfl rfl rfl ?_
  first | (refine o_want rfl rfl rfl rfl rfl ?_; refine o_gtr rfl rfl ?_) | refine o_unwanted rfl rfl rfl rfl rfl ?_ | refine o_undef rfl rfl rfl ?_
  rw [show decide (k > 8) = false from decide_eq_false h2]
  first | refine o_pick_t rfl rfl ?_ | refine o_pick_f rfl rfl ?_
  refine g_end (G.imp (hQ_ .normal _) ?_)
  clear hQ_ Q_
  try refine g_then ?_
  first | refine g_seq (g_cond_f rfl (by first | rfl | (simp; done) | (simp; omega) | (simp; assumption)) ?_) | refine g_cond_f rfl (by first | rfl | (simp; done) | (simp; omega) | (simp; assumption)) ?_
  obtain ⟨kn, rfl⟩ : ∃ kn : Nat, k = (kn : Int) := ⟨k.toNat, by omega⟩
  repeat (first | refine g_endt ?_ | refine g_end ?_ | refine g_then ?_ | refine g_in_normal ?_ | refine g_then_ret ?_ | refine g_in_ret ?_ | refine g_then_exit ?_ | refine g_in_exit rfl ?_ | refine g_in_exit_ne (by decide) ?_ | refine g_seq ?_ | refine g_region ?_ | refine g_block ?_ | refine g_ret ?_ | refine g_return_n ?_ | refine g_exit ?_ | refine g_skip ?_)
  refine g_hideR fun Q_ hQ_ => ?_
  refine o_assign ?_
  refine g_end (G.imp (hQ_ .normal _) ?_)
  clear hQ_ Q_
  try refine g_then ?_
  repeat (first | refine g_endt ?_ | refine g_end ?_ | refine g_then ?_ | refine g_in_normal ?_ | refine g_then_ret ?_ | refine g_in_ret ?_ | refine g_then_exit ?_ | refine g_in_exit rfl ?_ | refine g_in_exit_ne (by decide) ?_ | refine g_seq ?_ | refine g_region ?_ | refine g_block ?_ | refine g_ret ?_ | refine g_return_n ?_ | refine g_exit ?_ | refine g_skip ?_)
  refine g_loop (σ := {i : Nat // i ≤ n}) (S := fun i => [(0, .pointer (some ⟨r, 0, none⟩)), (1, .int .i64 (kn : Int)), (2, .slice A n c), (7, .int .i64 (i.1 : Int))]) (H := fun i => [RefD r (addD T (kn : Int) ((l.take i.1).map NumD.mk)), psl encI 1 A l]) (μ := fun i => n - i.1) (s0 := ⟨0, Nat.zero_le _⟩) (Sat.mem ⟨rfl, rfl, rfl, rfl, trivial⟩) (t := by
    show Take _ [RefD r (addD T (kn : Int) []), psl encI 1 A l] _
    rw [show addD T (kn : Int) [] = T from funext fun j => by unfold addD; split <;> simp_all]
    infer_instance) ?_
  rintro ⟨i, hi⟩ ρ'
  dsimp only at hi ⊢
  repeat (first | refine g_endt ?_ | refine g_end ?_ | refine g_then ?_ | refine g_in_normal ?_ | refine g_then_ret ?_ | refine g_in_ret ?_ | refine g_then_exit ?_ | refine g_in_exit rfl ?_ | refine g_in_exit_ne (by decide) ?_ | refine g_seq ?_ | refine g_region ?_ | refine g_block ?_ | refine g_ret ?_ | refine g_return_n ?_ | refine g_exit ?_ | refine g_skip ?_)
  refine g_hideR fun Q_ hQ_ => ?_
  refine o_move ?_
  refine o_move ?_
  refine o_len rfl rfl ?_
  refine o_lss rfl rfl ?_
  refine g_end (G.imp (hQ_ .normal _) ?_)
  clear hQ_ Q_
  try refine g_then ?_
  by_cases hin : i < n
  · first | refine g_seq (g_cond_t rfl (by first | rfl | (simp; done) | (simp; omega) | (simp; assumption)) ?_) | refine g_cond_t rfl (by first | rfl | (simp; done) | (simp; omega) | (simp; assumption)) ?_
    obtain ⟨x, hx⟩ : ∃ x, l[i]? = some x := ⟨_, List.getElem?_eq_getElem (by omega)⟩
    have hT' : addD T (kn : Int) ((l.take (i + 1)).map NumD.mk) (kn : Int) = insC NumD.cmp (addD T (kn : Int) ((l.take i).map NumD.mk) (kn : Int)) ⟨x⟩ := by
      rw [addD_at hlv, addD_at hlv, List.take_add_one, hx]
      simp [List.foldl_append]
    have hne : ∀ j : Int, j ≠ (kn : Int) → addD T (kn : Int) ((l.take (i + 1)).map NumD.mk) j = addD T (kn : Int) ((l.take i).map NumD.mk) j := fun j hj => by rw [addD_ne hj, addD_ne hj]
    have hsr : Srt NumD.cmp (addD T (kn : Int) ((l.take i).map NumD.mk) (kn : Int)) := by rw [addD_at hlv]; exact fold_srt _ _ (hs _)
    have hln : (addD T (kn : Int) ((l.take i).map NumD.mk) (kn : Int)).length ≤ 90000 + n := by
      rw [addD_at hlv]
      refine Nat.le_trans (fold_len_le _ _) ?_
      have := hb (kn : Int)
      simp; omega
    generalize addD T (kn : Int) ((l.take i).map NumD.mk) = U at hT' hne hsr hln ⊢
    refine openRf r U fun rs hr => ?_
    obtain ⟨q, hq⟩ := hr.get (i := kn) (by omega)
    obtain ⟨q1, q2, q3⟩ := hr.row kn q hq
    have q4 : (U (kn : Int)).length = q.len := by rw [← q2, q1, List.length_map]
    refine G.rowG (enc := encI) (sz := 1) (List.mem_of_getElem? hq) ?_
    rw [q1]
    repeat (first | refine g_endt ?_ | refine g_end ?_ | refine g_then ?_ | refine g_in_normal ?_ | refine g_then_ret ?_ | refine g_in_ret ?_ | refine g_then_exit ?_ | refine g_in_exit rfl ?_ | refine g_in_exit_ne (by decide) ?_ | refine g_seq ?_ | refine g_region ?_ | refine g_block ?_ | refine g_ret ?_ | refine g_return_n ?_ | refine g_exit ?_ | refine g_skip ?_)
    refine g_hide fun Q_ hQ_ => ?_
    refine g_draw [12,16] [0,1,2,3,4,5,6,7,8,9,10,11,13,14,12,15,16] [rfC r rs, psl encI 1 A l] mixed rfl ?_
    refine ob_q rfl rfl ⟨_, fun X Q h => o_move (g_end (h _ _ ⟨rfl, rfl⟩)), ?_⟩
    refine ob_q rfl rfl ⟨_, fun X Q h => o_move (g_end (h _ _ ⟨rfl, rfl⟩)), ?_⟩
    refine ob_q rfl rfl ⟨_, fun X Q h => o_move (g_end (h _ _ ⟨rfl, rfl⟩)), ?_⟩
    refine ob_q rfl rfl ⟨_, fun X Q h => o_move (g_end (h _ _ ⟨rfl, rfl⟩)), ?_⟩
    refine ob_q rfl rfl ⟨_, fun X Q h => o_nil rfl (g_end (h _ _ ⟨rfl, rfl⟩)), ?_⟩
    first | refine ob_q rfl rfl ⟨_, fun X Q h => o_field rfl (g_end (h _ _ ⟨rfl, rfl⟩)), ?_⟩ | refine ob_q rfl rfl ⟨_, fun X Q h => o_fieldR rfl (by omega) (g_end (h _ _ ⟨rfl, rfl⟩)), ?_⟩
    refine ob_q rfl rfl ⟨_, fun X Q h => o_arr 23 9 1 (i := kn) rfl rfl rfl (by omega) (by kernel_rfl) (fun w => by kernel_rfl) (g_end (h _ _ ⟨rfl, rfl⟩)), ?_⟩
    refine ob_q rfl rfl ⟨_, fun X Q h => o_load1 (v := .slice q.a q.len q.cap) rfl (RfI.cell (T := U) hq) (g_end (h _ _ ⟨rfl, rfl⟩)), ?_⟩
    refine ob_q rfl rfl ⟨_, fun X Q h => o_move (g_end (h _ _ ⟨rfl, rfl⟩)), ?_⟩
    refine ob_q rfl rfl ⟨_, fun X Q h => o_move (g_end (h _ _ ⟨rfl, rfl⟩)), ?_⟩
    refine ob_q rfl rfl ⟨_, fun X Q h => o_indexR (ys := l) (i := i) rfl rfl rfl (by omega) hl rfl (g_end (h _ _ ⟨rfl, rfl⟩)), ?_⟩
    refine ob_q rfl rfl ⟨_, fun X Q h => o_loadE0 (ys := l) (v := .int .i64 x) rfl hx rfl (g_end (h _ _ ⟨rfl, rfl⟩)), ?_⟩
    refine ob_q rfl rfl ⟨_, fun X Q h => o_nil rfl (g_end (h _ _ ⟨rfl, rfl⟩)), ?_⟩
    first | refine ob_q rfl rfl ⟨_, fun X Q h => o_field rfl (g_end (h _ _ ⟨rfl, rfl⟩)), ?_⟩ | refine ob_q rfl rfl ⟨_, fun X Q h => o_fieldR rfl (by omega) (g_end (h _ _ ⟨rfl, rfl⟩)), ?_⟩
    refine ob_l rfl rfl fun Qz hz => o_call (Rise_spec q.a q.len q.cap (U (kn : Int)) x hsr q4 q3 (by omega)) rfl rfl ?_
    rintro _ _ ⟨S, d, hd, rfl, rfl⟩
    refine g_end (hz _ _ ⟨_, ob_fin, ?_⟩)
    clear hz Qz
    refine ob_q rfl rfl ⟨_, fun X Q h => o_arr 23 9 1 (i := kn) rfl rfl rfl (by omega) (by kernel_rfl) (fun w => by kernel_rfl) (g_end (h _ _ ⟨rfl, rfl⟩)), ?_⟩
    refine ob_s [psl encI 1 A l] rfl rfl rfl fun Qz hz => o_store (v := .slice S (insC NumD.cmp (U (kn : Int)) ⟨x⟩).length d) rfl rfl rfl rfl (rf_room hr.len (by omega)) ?_
    refine g_end (hz _ _ ⟨_, ob_fin, ?_⟩)
    clear hz Qz
    refine ob_nil ?_
    refine G.imp (hQ_ .normal _) ?_
    clear hQ_ Q_
    try refine g_then ?_
    refine G.norm r ((rs.set kn ⟨S, (insC NumD.cmp (U (kn : Int)) ⟨x⟩).length, d, (insC NumD.cmp (U (kn : Int)) ⟨x⟩).map NumD.n⟩).map RowG.val).toArray (set_val _ (by rw [hr.len]; omega) ⟨rfl, rfl, rfl⟩) ?_
    refine G.rowSet (enc := encI) (sz := 1) (rs := rs) kn ⟨S, (insC NumD.cmp (U (kn : Int)) ⟨x⟩).length, d, (insC NumD.cmp (U (kn : Int)) ⟨x⟩).map NumD.n⟩ ?_
    refine shutRf r (addD T (kn : Int) ((l.take (i + 1)).map NumD.mk)) (rs.set kn ⟨S, (insC NumD.cmp (U (kn : Int)) ⟨x⟩).length, d, (insC NumD.cmp (U (kn : Int)) ⟨x⟩).map NumD.n⟩) (hr.set ⟨by rw [hT'], by simp, hd⟩ fun j hj => hne j (by omega)) ?_
    repeat (first | refine g_endt ?_ | refine g_end ?_ | refine g_then ?_ | refine g_in_normal ?_ | refine g_then_ret ?_ | refine g_in_ret ?_ | refine g_then_exit ?_ | refine g_in_exit rfl ?_ | refine g_in_exit_ne (by decide) ?_ | refine g_seq ?_ | refine g_region ?_ | refine g_block ?_ | refine g_ret ?_ | refine g_return_n ?_ | refine g_exit ?_ | refine g_skip ?_)
    repeat (first | refine g_endt ?_ | refine g_end ?_ | refine g_then ?_ | refine g_in_normal ?_ | refine g_then_ret ?_ | refine g_in_ret ?_ | refine g_then_exit ?_ | refine g_in_exit rfl ?_ | refine g_in_exit_ne (by decide) ?_ | refine g_seq ?_ | refine g_region ?_ | refine g_block ?_ | refine g_ret ?_ | refine g_return_n ?_ | refine g_exit ?_ | refine g_skip ?_)
    refine g_hideR fun Q_ hQ_ => ?_
    refine o_move ?_
    refine o_add (c := ((i + 1 : Nat) : Int)) rfl rfl (by omega) (by omega) (by omega) ?_
    refine o_assign ?_
    refine g_end (G.imp (hQ_ .normal _) ?_)
    clear hQ_ Q_
    try refine g_then ?_
    repeat (first | refine g_endt ?_ | refine g_end ?_ | refine g_then ?_ | refine g_in_normal ?_ | refine g_then_ret ?_ | refine g_in_ret ?_ | refine g_then_exit ?_ | refine g_in_exit rfl ?_ | refine g_in_exit_ne (by decide) ?_ | refine g_seq ?_ | refine g_region ?_ | refine g_block ?_ | refine g_ret ?_ | refine g_return_n ?_ | refine g_exit ?_ | refine g_skip ?_)
    exact g_meets ⟨i + 1, hin⟩ (by show n - (i + 1) < n - i; omega) (Sat.mem ⟨rfl, rfl, rfl, rfl, trivial⟩)
  · first | refine g_seq (g_cond_f rfl (by simp; omega) ?_) | refine g_cond_f rfl (by simp; omega) ?_
    rw [List.take_of_length_le (by omega)]
    repeat (first | refine g_endt ?_ | refine g_end ?_ | refine g_then ?_ | refine g_in_normal ?_ | refine g_then_ret ?_ | refine g_in_ret ?_ | refine g_then_exit ?_ | refine g_in_exit rfl ?_ | refine g_in_exit_ne (by decide) ?_ | refine g_seq ?_ | refine g_region ?_ | refine g_block ?_ | refine g_ret ?_ | refine g_return_n ?_ | refine g_exit ?_ | refine g_skip ?_)
    refine g_hideR fun Q_ hQ_ => ?_
    refine o_assign ?_
    refine g_end (G.imp (hQ_ .normal _) ?_)
    clear hQ_ Q_
    try refine g_then ?_
    repeat (first | refine g_endt ?_ | refine g_end ?_ | refine g_then ?_ | refine g_in_normal ?_ | refine g_then_ret ?_ | refine g_in_ret ?_ | refine g_then_exit ?_ | refine g_in_exit rfl ?_ | refine g_in_exit_ne (by decide) ?_ | refine g_seq ?_ | refine g_region ?_ | refine g_block ?_ | refine g_ret ?_ | refine g_return_n ?_ | refine g_exit ?_ | refine g_skip ?_)
    exact ret1 (K := [RefD r (addD T (kn : Int) (l.map NumD.mk)), psl encI 1 A l]) rfl (resT (v := .bool true) rfl) ⟨by rw [hlv], rfl⟩
end Go.Proofs.Yteokgobeafnpoaa
/- The document's answers on what goals depend on: hits, cuts. -/
namespace Go.Proofs.Yteokgobeafnpoaa
open Go Go.Sl
attribute [local irreducible] Exit.then Exit.inBlock Code.wpIn roundPost bodyPostM runL Ret Meets MeetsD Begin

theorem hit_at {T : DpT} {out : List NumD} {k : Int} (h1 : 2 ≤ k) (h2 : k ≤ 8) (hn : ∀ j : Int, 2 ≤ j → j < k → (T j).any (hasC NumD.cmp out) = false) (hy : (T k).any (hasC NumD.cmp out) = true) : hitT T out = k := by
  unfold hitT lvls
  have : k = 2 ∨ k = 3 ∨ k = 4 ∨ k = 5 ∨ k = 6 ∨ k = 7 ∨ k = 8 := by omega
  rcases this with rfl | rfl | rfl | rfl | rfl | rfl | rfl
  all_goals
    repeat (first | rw [List.find?_cons_of_pos (by exact hy)] | rw [List.find?_cons_of_neg (by rw [hn _ (by decide) (by decide)]; decide)])
    rfl
theorem hit_no {T : DpT} {out : List NumD} (hn : ∀ j : Int, 2 ≤ j → j ≤ 8 → (T j).any (hasC NumD.cmp out) = false) : hitT T out = 0 := by
  unfold hitT
  rw [List.find?_eq_none.2 fun k hk => by
    have := mem_lvls.1 hk
    rw [hn k this.1 this.2]; decide]
  rfl
theorem any_swap (l out : List NumD) : l.any (hasC NumD.cmp out) = out.any (hasC NumD.cmp l) := by
  rw [Bool.eq_iff_iff, List.any_eq_true, List.any_eq_true]
  constructor
  · rintro ⟨y, hy, h⟩; exact ⟨y, hasC_num.1 h, hasC_num.2 hy⟩
  · rintro ⟨y, hy, h⟩; exact ⟨y, hasC_num.1 h, hasC_num.2 hy⟩
set_option maxHeartbeats 1000000 in
theorem HitRf_spec (r : Nat) (T : DpT) (A : Option Addr) (n c : Nat) (l : List Int) (hl : l.length = n) (hn : n ≤ 1000000) (hb : ∀ j, (T j).length ≤ 100000) {v0 : Int} (hv : hitT T (l.map NumD.mk) = v0) : Ctr Try.prog 41 [.pointer (some ⟨r, 0, none⟩), .slice A n c] [RefD r T, psl encI 1 A l]
    (fun v M => v = .int .i64 v0 ∧ M = [RefD r T, psl encI 1 A l]) := by
  refine spec_of Try.func41 rfl Try.ntmps41 rfl fun w0 F => ?_
  -- hide
  -- (*ponder/ponderref10.Deps).Hit
  subst hv
  refine openRf r T fun rs hr => ?_
  repeat (first | refine g_endt ?_ | refine g_end ?_ | refine g_then ?_ | refine g_in_normal ?_ | refine g_then_ret ?_ | refine g_in_ret ?_ | refine g_then_exit ?_ | refine g_in_exit rfl ?_ | refine g_in_exit_ne (by decide) ?_ | refine g_seq ?_ | refine g_region ?_ | refine g_block ?_ | refine g_ret ?_ | refine g_return_n ?_ | refine g_exit ?_ | refine g_skip ?_)
  refine g_hideR fun Q_ hQ_ => ?_
  refine o_assign ?_
  refine g_end (G.imp (hQ_ .normal _) ?_)
  clear hQ_ Q_
  try refine g_then ?_
  repeat (first | refine g_endt ?_ | refine g_end ?_ | refine g_then ?_ | refine g_in_normal ?_ | refine g_then_ret ?_ | refine g_in_ret ?_ | refine g_then_exit ?_ | refine g_in_exit rfl ?_ | refine g_in_exit_ne (by decide) ?_ | refine g_seq ?_ | refine g_region ?_ | refine g_block ?_ | refine g_ret ?_ | refine g_return_n ?_ | refine g_exit ?_ | refine g_skip ?_)
  refine g_hideR fun Q_ hQ_ => ?_
  refine o_assign ?_
  refine g_end (G.imp (hQ_ .normal _) ?_)
  clear hQ_ Q_
  try refine g_then ?_
  repeat (first | refine g_endt ?_ | refine g_end ?_ | refine g_then ?_ | refine g_in_normal ?_ | refine g_then_ret ?_ | refine g_in_ret ?_ | refine g_then_exit ?_ | refine g_in_exit rfl ?_ | refine g_in_exit_ne (by decide) ?_ | refine g_seq ?_ | refine g_region ?_ | refine g_block ?_ | refine g_ret ?_ | refine g_return_n ?_ | refine g_exit ?_ | refine g_skip ?_)
  refine g_loop (σ := {k : Nat // 2 ≤ k ∧ k ≤ 9 ∧ ∀ j : Int, 2 ≤ j → j < k → (T j).any (hasC NumD.cmp (l.map NumD.mk)) = false}) (S := fun k => [(0, .pointer (some ⟨r, 0, none⟩)), (1, .slice A n c), (5, .int .i64 (k.1 : Int))]) (H := fun _ => [rfC r rs, prowsG encI 1 rs, psl encI 1 A l]) (μ := fun k => 9 - k.1) (s0 := ⟨2, by omega, by omega, fun j h1 h2 => by omega⟩) (Sat.mem ⟨rfl, rfl, rfl, trivial⟩) ?_
  rintro ⟨k, hk2, hk9, hlow⟩ ρ'
  dsimp only at hk2 hk9 hlow ⊢
  repeat (first | refine g_endt ?_ | refine g_end ?_ | refine g_then ?_ | refine g_in_normal ?_ | refine g_then_ret ?_ | refine g_in_ret ?_ | refine g_then_exit ?_ | refine g_in_exit rfl ?_ | refine g_in_exit_ne (by decide) ?_ | refine g_seq ?_ | refine g_region ?_ | refine g_block ?_ | refine g_ret ?_ | refine g_return_n ?_ | refine g_exit ?_ | refine g_skip ?_)
  refine g_hideR fun Q_ hQ_ => ?_
  refine o_move ?_
  refine o_leq rfl rfl ?_
  refine g_end (G.imp (hQ_ .normal _) ?_)
  clear hQ_ Q_
  try refine g_then ?_
  by_cases hk : k ≤ 8
  · first | refine g_seq (g_cond_t rfl (by simp; omega) ?_) | refine g_cond_t rfl (by simp; omega) ?_
    obtain ⟨q, hq⟩ := hr.get (i := k) (by omega)
    obtain ⟨q1, q2, q3⟩ := hr.row k q hq
    have hbk := hb (k : Int)
    have q4 : ((T (k : Int)).map NumD.n).length = q.len := by rw [← q2, q1]
    refine g_skip ?_
    refine g_then ?_
    refine g_cut (σ := Unit) (ds' := []) (S := fun _ => [(0, .pointer (some ⟨r, 0, none⟩)), (1, .slice A n c), (5, .int .i64 (k : Int))]) (H := fun _ => [rfC r rs, prowsG encI 1 rs, psl encI 1 A l]) (ok := fun _ => (T (k : Int)).any (hasC NumD.cmp (l.map NumD.mk)) = false) ?_ ?_
    · skip
      repeat (first | refine g_endt ?_ | refine g_end ?_ | refine g_then ?_ | refine g_in_normal ?_ | refine g_then_ret ?_ | refine g_in_ret ?_ | refine g_then_exit ?_ | refine g_in_exit rfl ?_ | refine g_in_exit_ne (by decide) ?_ | refine g_seq ?_ | refine g_region ?_ | refine g_block ?_ | refine g_ret ?_ | refine g_return_n ?_ | refine g_exit ?_ | refine g_skip ?_)
      repeat (first | refine g_endt ?_ | refine g_end ?_ | refine g_then ?_ | refine g_in_normal ?_ | refine g_then_ret ?_ | refine g_in_ret ?_ | refine g_then_exit ?_ | refine g_in_exit rfl ?_ | refine g_in_exit_ne (by decide) ?_ | refine g_seq ?_ | refine g_region ?_ | refine g_block ?_ | refine g_ret ?_ | refine g_return_n ?_ | refine g_exit ?_ | refine g_skip ?_)
      refine g_hideR fun Q_ hQ_ => ?_
      refine o_assign ?_
      refine g_end (G.imp (hQ_ .normal _) ?_)
      clear hQ_ Q_
      try refine g_then ?_
      repeat (first | refine g_endt ?_ | refine g_end ?_ | refine g_then ?_ | refine g_in_normal ?_ | refine g_then_ret ?_ | refine g_in_ret ?_ | refine g_then_exit ?_ | refine g_in_exit rfl ?_ | refine g_in_exit_ne (by decide) ?_ | refine g_seq ?_ | refine g_region ?_ | refine g_block ?_ | refine g_ret ?_ | refine g_return_n ?_ | refine g_exit ?_ | refine g_skip ?_)
      refine g_loop (σ := {i : Nat // i ≤ n ∧ ∀ x ∈ l.take i, hasC NumD.cmp (T (k : Int)) ⟨x⟩ = false}) (S := fun i => [(0, .pointer (some ⟨r, 0, none⟩)), (1, .slice A n c), (5, .int .i64 (k : Int)), (6, .int .i64 (i.1 : Int))]) (H := fun _ => [rfC r rs, prowsG encI 1 rs, psl encI 1 A l]) (μ := fun i => n - i.1) (s0 := ⟨0, Nat.zero_le _, by simp⟩) (Sat.mem ⟨rfl, rfl, rfl, rfl, trivial⟩) ?_
      rintro ⟨i, hi, hne⟩ ρ2
      dsimp only at hi hne ⊢
      repeat (first | refine g_endt ?_ | refine g_end ?_ | refine g_then ?_ | refine g_in_normal ?_ | refine g_then_ret ?_ | refine g_in_ret ?_ | refine g_then_exit ?_ | refine g_in_exit rfl ?_ | refine g_in_exit_ne (by decide) ?_ | refine g_seq ?_ | refine g_region ?_ | refine g_block ?_ | refine g_ret ?_ | refine g_return_n ?_ | refine g_exit ?_ | refine g_skip ?_)
      refine g_hideR fun Q_ hQ_ => ?_
      refine o_move ?_
      refine o_move ?_
      refine o_len rfl rfl ?_
      refine o_lss rfl rfl ?_
      refine g_end (G.imp (hQ_ .normal _) ?_)
      clear hQ_ Q_
      try refine g_then ?_
      by_cases hin : i < n
      · first | refine g_seq (g_cond_t rfl (by first | rfl | (simp; done) | (simp; omega) | (simp; assumption)) ?_) | refine g_cond_t rfl (by first | rfl | (simp; done) | (simp; omega) | (simp; assumption)) ?_
        obtain ⟨x, hx⟩ : ∃ x, l[i]? = some x := ⟨_, List.getElem?_eq_getElem (by omega)⟩
        obtain ⟨h0, hh⟩ : ∃ h0, hasC NumD.cmp (T (k : Int)) ⟨x⟩ = h0 := ⟨_, rfl⟩
        have hh2 : hasI ((T (k : Int)).map NumD.n) x = h0 := by rw [hasI_num]; exact hh
        refine G.rowG (enc := encI) (sz := 1) (List.mem_of_getElem? hq) ?_
        rw [q1]
        repeat (first | refine g_endt ?_ | refine g_end ?_ | refine g_then ?_ | refine g_in_normal ?_ | refine g_then_ret ?_ | refine g_in_ret ?_ | refine g_then_exit ?_ | refine g_in_exit rfl ?_ | refine g_in_exit_ne (by decide) ?_ | refine g_seq ?_ | refine g_region ?_ | refine g_block ?_ | refine g_ret ?_ | refine g_return_n ?_ | refine g_exit ?_ | refine g_skip ?_)
        refine g_hide fun Q_ hQ_ => ?_
        refine g_draw [] [0,1,2,3,4,5,6,7,8,9,10] [rfC r rs, psl encI 1 q.a ((T (k : Int)).map NumD.n), psl encI 1 A l] mixed rfl ?_
        refine ob_q rfl rfl ⟨_, fun X Q h => o_move (g_end (h _ _ ⟨rfl, rfl⟩)), ?_⟩
        refine ob_q rfl rfl ⟨_, fun X Q h => o_move (g_end (h _ _ ⟨rfl, rfl⟩)), ?_⟩
        refine ob_q rfl rfl ⟨_, fun X Q h => o_nil rfl (g_end (h _ _ ⟨rfl, rfl⟩)), ?_⟩
        first | refine ob_q rfl rfl ⟨_, fun X Q h => o_field rfl (g_end (h _ _ ⟨rfl, rfl⟩)), ?_⟩ | refine ob_q rfl rfl ⟨_, fun X Q h => o_fieldR rfl (by omega) (g_end (h _ _ ⟨rfl, rfl⟩)), ?_⟩
        refine ob_q rfl rfl ⟨_, fun X Q h => o_arr 23 9 1 (i := k) rfl rfl rfl (by omega) (by kernel_rfl) (fun w => by kernel_rfl) (g_end (h _ _ ⟨rfl, rfl⟩)), ?_⟩
        refine ob_q rfl rfl ⟨_, fun X Q h => o_load1 (v := .slice q.a q.len q.cap) rfl (RfI.cell (T := T) hq) (g_end (h _ _ ⟨rfl, rfl⟩)), ?_⟩
        refine ob_q rfl rfl ⟨_, fun X Q h => o_move (g_end (h _ _ ⟨rfl, rfl⟩)), ?_⟩
        refine ob_q rfl rfl ⟨_, fun X Q h => o_move (g_end (h _ _ ⟨rfl, rfl⟩)), ?_⟩
        refine ob_q rfl rfl ⟨_, fun X Q h => o_indexR (ys := l) (i := i) rfl rfl rfl (by omega) hl rfl (g_end (h _ _ ⟨rfl, rfl⟩)), ?_⟩
        refine ob_q rfl rfl ⟨_, fun X Q h => o_loadE0 (ys := l) (v := .int .i64 x) rfl hx rfl (g_end (h _ _ ⟨rfl, rfl⟩)), ?_⟩
        refine ob_q rfl rfl ⟨_, fun X Q h => o_callp (HasQ_spec q.a q.cap q.len ((T (k : Int)).map NumD.n) x q4 (by rw [← q4, List.length_map]; omega) hh2) rfl rfl <| by rintro _ _ ⟨rfl, rfl⟩; exact (g_end (h _ _ ⟨rfl, rfl⟩)), ?_⟩
        refine ob_nil ?_
        refine G.imp (hQ_ .normal _) ?_
        clear hQ_ Q_
        try refine g_then ?_
        cases h0 with
        | true =>
          have hany : (T (k : Int)).any (hasC NumD.cmp (l.map NumD.mk)) = true := by
            rw [any_swap, List.any_eq_true]
            exact ⟨⟨x⟩, List.mem_map.2 ⟨x, List.mem_of_getElem? hx, rfl⟩, hh⟩
          have hat := hit_at (T := T) (out := l.map NumD.mk) (k := (k : Int)) (by omega) (by omega) hlow hany
          first | refine g_seq (g_cond_t rfl (by first | rfl | (simp; done) | (simp; omega) | (simp; assumption)) ?_) | refine g_cond_t rfl (by first | rfl | (simp; done) | (simp; omega) | (simp; assumption)) ?_
          repeat (first | refine g_endt ?_ | refine g_end ?_ | refine g_then ?_ | refine g_in_normal ?_ | refine g_then_ret ?_ | refine g_in_ret ?_ | refine g_then_exit ?_ | refine g_in_exit rfl ?_ | refine g_in_exit_ne (by decide) ?_ | refine g_seq ?_ | refine g_region ?_ | refine g_block ?_ | refine g_ret ?_ | refine g_return_n ?_ | refine g_exit ?_ | refine g_skip ?_)
          refine g_hideR fun Q_ hQ_ => ?_
          refine o_move ?_
          refine o_assign ?_
          refine g_end (G.imp (hQ_ .normal _) ?_)
          clear hQ_ Q_
          try refine g_then ?_
          refine shutRf r T rs hr ?_
          repeat (first | refine g_endt ?_ | refine g_end ?_ | refine g_then ?_ | refine g_in_normal ?_ | refine g_then_ret ?_ | refine g_in_ret ?_ | refine g_then_exit ?_ | refine g_in_exit rfl ?_ | refine g_in_exit_ne (by decide) ?_ | refine g_seq ?_ | refine g_region ?_ | refine g_block ?_ | refine g_ret ?_ | refine g_return_n ?_ | refine g_exit ?_ | refine g_skip ?_)
          exact ret1 (K := [RefD r T, psl encI 1 A l]) rfl (resT (v := .int .i64 (k : Int)) rfl) ⟨by rw [hat], rfl⟩
        | false =>
          first | refine g_seq (g_cond_f rfl (by first | rfl | (simp; done) | (simp; omega) | (simp; assumption)) ?_) | refine g_cond_f rfl (by first | rfl | (simp; done) | (simp; omega) | (simp; assumption)) ?_
          repeat (first | refine g_endt ?_ | refine g_end ?_ | refine g_then ?_ | refine g_in_normal ?_ | refine g_then_ret ?_ | refine g_in_ret ?_ | refine g_then_exit ?_ | refine g_in_exit rfl ?_ | refine g_in_exit_ne (by decide) ?_ | refine g_seq ?_ | refine g_region ?_ | refine g_block ?_ | refine g_ret ?_ | refine g_return_n ?_ | refine g_exit ?_ | refine g_skip ?_)
          repeat (first | refine g_endt ?_ | refine g_end ?_ | refine g_then ?_ | refine g_in_normal ?_ | refine g_then_ret ?_ | refine g_in_ret ?_ | refine g_then_exit ?_ | refine g_in_exit rfl ?_ | refine g_in_exit_ne (by decide) ?_ | refine g_seq ?_ | refine g_region ?_ | refine g_block ?_ | refine g_ret ?_ | refine g_return_n ?_ | refine g_exit ?_ | refine g_skip ?_)
          refine g_hideR fun Q_ hQ_ => ?_
          refine o_move ?_
          refine o_add (c := ((i + 1 : Nat) : Int)) rfl rfl (by omega) (by omega) (by omega) ?_
          refine o_assign ?_
          refine g_end (G.imp (hQ_ .normal _) ?_)
          clear hQ_ Q_
          try refine g_then ?_
          repeat (first | refine g_endt ?_ | refine g_end ?_ | refine g_then ?_ | refine g_in_normal ?_ | refine g_then_ret ?_ | refine g_in_ret ?_ | refine g_then_exit ?_ | refine g_in_exit rfl ?_ | refine g_in_exit_ne (by decide) ?_ | refine g_seq ?_ | refine g_region ?_ | refine g_block ?_ | refine g_ret ?_ | refine g_return_n ?_ | refine g_exit ?_ | refine g_skip ?_)
          exact g_meets ⟨i + 1, hin, fun y hy => by
            rw [List.take_add_one, hx] at hy
            rcases List.mem_append.1 hy with hy | hy
            · exact hne y hy
            · simp at hy; subst hy; exact hh⟩ (by show n - (i + 1) < n - i; omega) (Sat.mem ⟨rfl, rfl, rfl, rfl, trivial⟩)
      · first | refine g_seq (g_cond_f rfl (by simp; omega) ?_) | refine g_cond_f rfl (by simp; omega) ?_
        rw [List.take_of_length_le (by omega)] at hne
        repeat (first | refine g_endt ?_ | refine g_end ?_ | refine g_then ?_ | refine g_in_normal ?_ | refine g_then_ret ?_ | refine g_in_ret ?_ | refine g_then_exit ?_ | refine g_in_exit rfl ?_ | refine g_in_exit_ne (by decide) ?_ | refine g_seq ?_ | refine g_region ?_ | refine g_block ?_ | refine g_ret ?_ | refine g_return_n ?_ | refine g_exit ?_ | refine g_skip ?_)
        exact g_meets () (by
          rw [any_swap, List.any_eq_false]
          intro y hy
          obtain ⟨x, hx, rfl⟩ := List.mem_map.1 hy
          rw [hne x hx]; decide) (Sat.mem ⟨rfl, rfl, rfl, trivial⟩)
    · rintro _ ρ3 hno
      repeat (first | refine g_endt ?_ | refine g_end ?_ | refine g_then ?_ | refine g_in_normal ?_ | refine g_then_ret ?_ | refine g_in_ret ?_ | refine g_then_exit ?_ | refine g_in_exit rfl ?_ | refine g_in_exit_ne (by decide) ?_ | refine g_seq ?_ | refine g_region ?_ | refine g_block ?_ | refine g_ret ?_ | refine g_return_n ?_ | refine g_exit ?_ | refine g_skip ?_)
      repeat (first | refine g_endt ?_ | refine g_end ?_ | refine g_then ?_ | refine g_in_normal ?_ | refine g_then_ret ?_ | refine g_in_ret ?_ | refine g_then_exit ?_ | refine g_in_exit rfl ?_ | refine g_in_exit_ne (by decide) ?_ | refine g_seq ?_ | refine g_region ?_ | refine g_block ?_ | refine g_ret ?_ | refine g_return_n ?_ | refine g_exit ?_ | refine g_skip ?_)
      refine g_hideR fun Q_ hQ_ => ?_
      refine o_move ?_
      refine o_add (c := ((k + 1 : Nat) : Int)) rfl rfl (by omega) (by omega) (by omega) ?_
      refine o_assign ?_
      refine g_end (G.imp (hQ_ .normal _) ?_)
      clear hQ_ Q_
      try refine g_then ?_
      repeat (first | refine g_endt ?_ | refine g_end ?_ | refine g_then ?_ | refine g_in_normal ?_ | refine g_then_ret ?_ | refine g_in_ret ?_ | refine g_then_exit ?_ | refine g_in_exit rfl ?_ | refine g_in_exit_ne (by decide) ?_ | refine g_seq ?_ | refine g_region ?_ | refine g_block ?_ | refine g_ret ?_ | refine g_return_n ?_ | refine g_exit ?_ | refine g_skip ?_)
      exact g_meets ⟨k + 1, by omega, by omega, fun j h1 h2 => by
        by_cases e : j = (k : Int)
        · subst e; exact hno
        · exact hlow j h1 (by omega)⟩ (by show 9 - (k + 1) < 9 - k; omega) (Sat.mem ⟨rfl, rfl, rfl, trivial⟩)
  · first | refine g_seq (g_cond_f rfl (by simp; omega) ?_) | refine g_cond_f rfl (by simp; omega) ?_
    have h0 := hit_no (T := T) (out := l.map NumD.mk) fun j h1 h2 => hlow j h1 (by omega)
    repeat (first | refine g_endt ?_ | refine g_end ?_ | refine g_then ?_ | refine g_in_normal ?_ | refine g_then_ret ?_ | refine g_in_ret ?_ | refine g_then_exit ?_ | refine g_in_exit rfl ?_ | refine g_in_exit_ne (by decide) ?_ | refine g_seq ?_ | refine g_region ?_ | refine g_block ?_ | refine g_ret ?_ | refine g_return_n ?_ | refine g_exit ?_ | refine g_skip ?_)
    refine g_hideR fun Q_ hQ_ => ?_
    refine o_assign ?_
    refine g_end (G.imp (hQ_ .normal _) ?_)
    clear hQ_ Q_
    try refine g_then ?_
    refine shutRf r T rs hr ?_
    repeat (first | refine g_endt ?_ | refine g_end ?_ | refine g_then ?_ | refine g_in_normal ?_ | refine g_then_ret ?_ | refine g_in_ret ?_ | refine g_then_exit ?_ | refine g_in_exit rfl ?_ | refine g_in_exit_ne (by decide) ?_ | refine g_seq ?_ | refine g_region ?_ | refine g_block ?_ | refine g_ret ?_ | refine g_return_n ?_ | refine g_exit ?_ | refine g_skip ?_)
    exact ret1 (K := [RefD r T, psl encI 1 A l]) rfl (resT (v := .int .i64 0) rfl) ⟨by rw [h0], rfl⟩
/-! ### Cut -/
def cutTo (T : DpT) (a k : Int) : DpT := fun j => if a ≤ j ∧ j < k then [] else T j
def sumTo (T : DpT) (lv k : Int) : Nat := (lvls.map fun j => if j < k then cutK T lv j else 0).sum
theorem sum_zero {α : Type} (f : α → Nat) : ∀ (l : List α), (∀ a ∈ l, f a = 0) → (l.map f).sum = 0
  | [], _ => rfl
  | a :: l, h => by
    rw [List.map_cons, List.sum_cons, h a List.mem_cons_self, sum_zero f l fun x hx => h x (List.mem_cons_of_mem _ hx)]
theorem sumTo_first {T : DpT} {lv : Int} : sumTo T lv (max lv 2) = 0 := sum_zero _ _ fun j hj => by
  have := mem_lvls.1 hj
  split
  · unfold cutK; rw [if_neg (by omega)]
  · rfl
theorem sumTo_last {T : DpT} {lv k : Int} (hk : 9 ≤ k) : sumTo T lv k = cutN T lv := by
  unfold sumTo cutN
  congr 1
  refine List.map_congr_left fun j hj => ?_
  have := mem_lvls.1 hj
  rw [if_pos (by omega)]
theorem sumTo_step {T : DpT} {lv k : Int} (h1 : 2 ≤ k) (h2 : k ≤ 8) (h3 : lv ≤ k) : sumTo T lv (k + 1) = sumTo T lv k + (T k).length := by
  have hc : cutK T lv k = (T k).length := by unfold cutK; rw [if_pos h3]
  rw [← hc]
  unfold sumTo lvls
  have : k = 2 ∨ k = 3 ∨ k = 4 ∨ k = 5 ∨ k = 6 ∨ k = 7 ∨ k = 8 := by omega
  rcases this with rfl | rfl | rfl | rfl | rfl | rfl | rfl <;> simp <;> omega
theorem sumTo_le {T : DpT} {B : Nat} (hb : ∀ j, (T j).length ≤ B) (lv k : Int) : sumTo T lv k ≤ 7 * B := by
  have h : ∀ j, (if j < k then cutK T lv j else 0) ≤ B := fun j => by
    split
    · unfold cutK; split
      · exact hb j
      · omega
    · omega
  unfold sumTo lvls
  simp only [List.map_cons, List.map_nil, List.sum_cons, List.sum_nil]
  have := h 2; have := h 3; have := h 4; have := h 5; have := h 6; have := h 7; have := h 8
  omega
theorem cutTo_last {T : DpT} (hr : ∀ k, T k ≠ [] → 2 ≤ k ∧ k ≤ 8) {lv k : Int} (hk : 9 ≤ k) : cutTo T (max lv 2) k = cutD T lv := by
  funext j
  unfold cutTo cutD
  by_cases e : T j = []
  · rw [e]; split <;> split <;> rfl
  · have := hr j e
    by_cases h : lv ≤ j
    · rw [if_pos h, if_pos ⟨by omega, by omega⟩]
    · rw [if_neg h, if_neg (by omega)]
set_option maxHeartbeats 1000000 in
theorem CutRf_spec (r : Nat) (T : DpT) (lv : Int) (hr0 : ∀ k, T k ≠ [] → 2 ≤ k ∧ k ≤ 8) (hb : ∀ j, (T j).length ≤ 100000) {v0 : Int} (hv : (cutN T lv : Int) = v0) : Ctr Try.prog 40 [.pointer (some ⟨r, 0, none⟩), .int .i64 lv] [RefD r T]
    (fun v M => v = .int .i64 v0 ∧ M = [RefD r (cutD T lv)]) := by
  refine spec_of Try.func40 rfl Try.ntmps40 rfl fun w0 F => ?_
  -- hide
  -- (*ponder/ponderref10.Deps).Cut
  subst hv
  repeat (first | refine g_endt ?_ | refine g_end ?_ | refine g_then ?_ | refine g_in_normal ?_ | refine g_then_ret ?_ | refine g_in_ret ?_ | refine g_then_exit ?_ | refine g_in_exit rfl ?_ | refine g_in_exit_ne (by decide) ?_ | refine g_seq ?_ | refine g_region ?_ | refine g_block ?_ | refine g_ret ?_ | refine g_return_n ?_ | refine g_exit ?_ | refine g_skip ?_)
  refine g_hideR fun Q_ hQ_ => ?_
  refine o_assign ?_
  refine g_end (G.imp (hQ_ .normal _) ?_)
  clear hQ_ Q_
  try refine g_then ?_
  repeat (first | refine g_endt ?_ | refine g_end ?_ | refine g_then ?_ | refine g_in_normal ?_ | refine g_then_ret ?_ | refine g_in_ret ?_ | refine g_then_exit ?_ | refine g_in_exit rfl ?_ | refine g_in_exit_ne (by decide) ?_ | refine g_seq ?_ | refine g_region ?_ | refine g_block ?_ | refine g_ret ?_ | refine g_return_n ?_ | refine g_exit ?_ | refine g_skip ?_)
  refine g_hideR fun Q_ hQ_ => ?_
  refine o_assign ?_
  refine g_end (G.imp (hQ_ .normal _) ?_)
  clear hQ_ Q_
  try refine g_then ?_
  repeat (first | refine g_endt ?_ | refine g_end ?_ | refine g_then ?_ | refine g_in_normal ?_ | refine g_then_ret ?_ | refine g_in_ret ?_ | refine g_then_exit ?_ | refine g_in_exit rfl ?_ | refine g_in_exit_ne (by decide) ?_ | refine g_seq ?_ | refine g_region ?_ | refine g_block ?_ | refine g_ret ?_ | refine g_return_n ?_ | refine g_exit ?_ | refine g_skip ?_)
  refine g_hideR fun Q_ hQ_ => ?_
  refine o_move ?_
  refine o_max rfl rfl ?_
  refine o_assign ?_
  refine g_end (G.imp (hQ_ .normal _) ?_)
  clear hQ_ Q_
  try refine g_then ?_
  repeat (first | refine g_endt ?_ | refine g_end ?_ | refine g_then ?_ | refine g_in_normal ?_ | refine g_then_ret ?_ | refine g_in_ret ?_ | refine g_then_exit ?_ | refine g_in_exit rfl ?_ | refine g_in_exit_ne (by decide) ?_ | refine g_seq ?_ | refine g_region ?_ | refine g_block ?_ | refine g_ret ?_ | refine g_return_n ?_ | refine g_exit ?_ | refine g_skip ?_)
  refine g_loop (σ := {k : Int // max lv 2 ≤ k ∧ (k = max lv 2 ∨ k ≤ 9)}) (S := fun k => [(0, .pointer (some ⟨r, 0, none⟩)), (1, .int .i64 lv), (5, .int .i64 (sumTo T lv k.1 : Int)), (6, .int .i64 k.1)]) (H := fun k => [RefD r (cutTo T (max lv 2) k.1)]) (μ := fun k => (9 - k.1).toNat) (s0 := ⟨max lv 2, by omega, .inl rfl⟩) (Sat.mem ⟨rfl, rfl, by rw [sumTo_first]; rfl, rfl, trivial⟩) (t := by
    rw [show cutTo T (max lv 2) (max lv 2) = T from funext fun j => by unfold cutTo; rw [if_neg (by omega)]]
    infer_instance) ?_
  rintro ⟨k, hk1, hk2⟩ ρ'
  dsimp only at hk1 hk2 ⊢
  repeat (first | refine g_endt ?_ | refine g_end ?_ | refine g_then ?_ | refine g_in_normal ?_ | refine g_then_ret ?_ | refine g_in_ret ?_ | refine g_then_exit ?_ | refine g_in_exit rfl ?_ | refine g_in_exit_ne (by decide) ?_ | refine g_seq ?_ | refine g_region ?_ | refine g_block ?_ | refine g_ret ?_ | refine g_return_n ?_ | refine g_exit ?_ | refine g_skip ?_)
  refine g_hideR fun Q_ hQ_ => ?_
  refine o_move ?_
  refine o_leq rfl rfl ?_
  refine g_end (G.imp (hQ_ .normal _) ?_)
  clear hQ_ Q_
  try refine g_then ?_
  by_cases hk : k ≤ 8
  · first | refine g_seq (g_cond_t rfl (by simpa using hk) ?_) | refine g_cond_t rfl (by simpa using hk) ?_
    have h2 : 2 ≤ k := by omega
    have hst := sumTo_step (T := T) h2 hk (show lv ≤ k by omega)
    have hsl := sumTo_le hb lv k
    have hbk := hb k
    have hself : cutTo T (max lv 2) k k = T k := by unfold cutTo; rw [if_neg (by omega)]
    have hnext : cutTo T (max lv 2) (k + 1) k = [] := by unfold cutTo; rw [if_pos ⟨hk1, by omega⟩]
    have hoth : ∀ j : Int, j ≠ k → cutTo T (max lv 2) (k + 1) j = cutTo T (max lv 2) k j := fun j hj => by
      unfold cutTo
      by_cases e : max lv 2 ≤ j ∧ j < k
      · rw [if_pos e, if_pos ⟨e.1, by omega⟩]
      · rw [if_neg e, if_neg (by omega)]
    obtain ⟨kn, rfl⟩ : ∃ kn : Nat, k = (kn : Int) := ⟨k.toNat, by omega⟩
    refine openRf r (cutTo T (max lv 2) (kn : Int)) fun rs hr => ?_
    obtain ⟨q, hq⟩ := hr.get (i := kn) (by omega)
    obtain ⟨q1, q2, q3⟩ := hr.row kn q hq
    have q4 : (T (kn : Int)).length = q.len := by rw [← q2, q1, List.length_map, hself]
    rw [q4] at hst hbk
    generalize sumTo T lv (kn : Int) = N at hst hsl ⊢
    repeat (first | refine g_endt ?_ | refine g_end ?_ | refine g_then ?_ | refine g_in_normal ?_ | refine g_then_ret ?_ | refine g_in_ret ?_ | refine g_then_exit ?_ | refine g_in_exit rfl ?_ | refine g_in_exit_ne (by decide) ?_ | refine g_seq ?_ | refine g_region ?_ | refine g_block ?_ | refine g_ret ?_ | refine g_return_n ?_ | refine g_exit ?_ | refine g_skip ?_)
    repeat (first | refine g_endt ?_ | refine g_end ?_ | refine g_then ?_ | refine g_in_normal ?_ | refine g_then_ret ?_ | refine g_in_ret ?_ | refine g_then_exit ?_ | refine g_in_exit rfl ?_ | refine g_in_exit_ne (by decide) ?_ | refine g_seq ?_ | refine g_region ?_ | refine g_block ?_ | refine g_ret ?_ | refine g_return_n ?_ | refine g_exit ?_ | refine g_skip ?_)
    refine g_hideR fun Q_ hQ_ => ?_
    refine o_move ?_
    refine o_move ?_
    refine o_move ?_
    refine o_nil rfl ?_
    first | refine o_field rfl ?_ | refine o_fieldR rfl (by omega) ?_
    refine o_arr 23 9 1 (i := kn) rfl rfl rfl (by omega) (by kernel_rfl) (fun w => by kernel_rfl) ?_
    refine o_load1 (v := .slice q.a q.len q.cap) rfl (RfI.cell (T := T) hq) ?_
    refine o_len rfl rfl ?_
    refine o_add (c := ((N + q.len : Nat) : Int)) rfl rfl (by omega) (by omega) (by omega) ?_
    refine o_assign ?_
    refine g_end (G.imp (hQ_ .normal _) ?_)
    clear hQ_ Q_
    try refine g_then ?_
    repeat (first | refine g_endt ?_ | refine g_end ?_ | refine g_then ?_ | refine g_in_normal ?_ | refine g_then_ret ?_ | refine g_in_ret ?_ | refine g_then_exit ?_ | refine g_in_exit rfl ?_ | refine g_in_exit_ne (by decide) ?_ | refine g_seq ?_ | refine g_region ?_ | refine g_block ?_ | refine g_ret ?_ | refine g_return_n ?_ | refine g_exit ?_ | refine g_skip ?_)
    refine g_hideR fun Q_ hQ_ => ?_
    refine o_move ?_
    refine o_move ?_
    refine o_nil rfl ?_
    first | refine o_field rfl ?_ | refine o_fieldR rfl (by omega) ?_
    refine o_arr 23 9 1 (i := kn) rfl rfl rfl (by omega) (by kernel_rfl) (fun w => by kernel_rfl) ?_
    refine o_store (v := .slice none 0 0) rfl rfl rfl rfl (rf_room hr.len (by omega)) ?_
    refine g_end (G.imp (hQ_ .normal _) ?_)
    clear hQ_ Q_
    try refine g_then ?_
    refine G.norm r ((rs.set kn ⟨none, 0, 0, []⟩).map RowG.val).toArray (set_val _ (by rw [hr.len]; omega) ⟨rfl, rfl, rfl⟩) ?_
    refine G.psl_nil (α := Int) encI 1 ?_
    refine G.rowSet (enc := encI) (sz := 1) (rs := rs) kn ⟨none, 0, 0, []⟩ ?_
    refine shutRf r (cutTo T (max lv 2) ((kn : Int) + 1)) (rs.set kn ⟨none, 0, 0, []⟩) (hr.set ⟨by rw [hnext]; rfl, rfl, Nat.le_refl 0⟩ fun j hj => hoth j (by omega)) ?_
    rw [← hst]
    repeat (first | refine g_endt ?_ | refine g_end ?_ | refine g_then ?_ | refine g_in_normal ?_ | refine g_then_ret ?_ | refine g_in_ret ?_ | refine g_then_exit ?_ | refine g_in_exit rfl ?_ | refine g_in_exit_ne (by decide) ?_ | refine g_seq ?_ | refine g_region ?_ | refine g_block ?_ | refine g_ret ?_ | refine g_return_n ?_ | refine g_exit ?_ | refine g_skip ?_)
    repeat (first | refine g_endt ?_ | refine g_end ?_ | refine g_then ?_ | refine g_in_normal ?_ | refine g_then_ret ?_ | refine g_in_ret ?_ | refine g_then_exit ?_ | refine g_in_exit rfl ?_ | refine g_in_exit_ne (by decide) ?_ | refine g_seq ?_ | refine g_region ?_ | refine g_block ?_ | refine g_ret ?_ | refine g_return_n ?_ | refine g_exit ?_ | refine g_skip ?_)
    refine g_hideR fun Q_ hQ_ => ?_
    refine o_move ?_
    refine o_add (c := (kn : Int) + 1) rfl rfl rfl (by omega) (by omega) ?_
    refine o_assign ?_
    refine g_end (G.imp (hQ_ .normal _) ?_)
    clear hQ_ Q_
    try refine g_then ?_
    repeat (first | refine g_endt ?_ | refine g_end ?_ | refine g_then ?_ | refine g_in_normal ?_ | refine g_then_ret ?_ | refine g_in_ret ?_ | refine g_then_exit ?_ | refine g_in_exit rfl ?_ | refine g_in_exit_ne (by decide) ?_ | refine g_seq ?_ | refine g_region ?_ | refine g_block ?_ | refine g_ret ?_ | refine g_return_n ?_ | refine g_exit ?_ | refine g_skip ?_)
    exact g_meets ⟨(kn : Int) + 1, by omega, by omega⟩ (by show (9 - ((kn : Int) + 1)).toNat < (9 - (kn : Int)).toNat; omega) (Sat.mem ⟨rfl, rfl, rfl, rfl, trivial⟩)
  · first | refine g_seq (g_cond_f rfl (by simpa using hk) ?_) | refine g_cond_f rfl (by simpa using hk) ?_
    rw [cutTo_last hr0 (by omega), sumTo_last (by omega)]
    repeat (first | refine g_endt ?_ | refine g_end ?_ | refine g_then ?_ | refine g_in_normal ?_ | refine g_then_ret ?_ | refine g_in_ret ?_ | refine g_then_exit ?_ | refine g_in_exit rfl ?_ | refine g_in_exit_ne (by decide) ?_ | refine g_seq ?_ | refine g_region ?_ | refine g_block ?_ | refine g_ret ?_ | refine g_return_n ?_ | refine g_exit ?_ | refine g_skip ?_)
    refine g_hideR fun Q_ hQ_ => ?_
    refine o_move ?_
    refine o_assign ?_
    refine g_end (G.imp (hQ_ .normal _) ?_)
    clear hQ_ Q_
    try refine g_then ?_
    repeat (first | refine g_endt ?_ | refine g_end ?_ | refine g_then ?_ | refine g_in_normal ?_ | refine g_then_ret ?_ | refine g_in_ret ?_ | refine g_then_exit ?_ | refine g_in_exit rfl ?_ | refine g_in_exit_ne (by decide) ?_ | refine g_seq ?_ | refine g_region ?_ | refine g_block ?_ | refine g_ret ?_ | refine g_return_n ?_ | refine g_exit ?_ | refine g_skip ?_)
    exact ret1 (K := [RefD r (cutD T lv)]) rfl (resT (v := .int .i64 (cutN T lv : Int)) rfl) ⟨rfl, rfl⟩
end Go.Proofs.Yteokgobeafnpoaa
/- A list told. -/
namespace Go.Proofs.Yteokgobeafnpoaa
open Go Go.Sl
attribute [local irreducible] Code.wpIn roundPost bodyPostM runL Ret Meets Begin

theorem Of1I_iter (b : Nat) (A : Option Addr) (len cap : Nat) (ys : List Int) (hl : ys.length = len) (hm : len ≤ 4611686018427387904) (J0 : List SProp) [HasP J0 (pblk b (.cells #[.slice A len cap] 23 (0, 0)))] [HasP J0 (psl encI 1 A ys)] :
    Iter Try.prog 31 [.pointer (some ⟨b, 0, none⟩)] encVI ys J0 := by
  intro l J Jx hJ hy
  refine spec_of Try.func31 rfl Try.ntmps31 rfl fun w0 F => ?_
  refine G.dup (pblk b (.cells #[.slice A len cap] 23 (0, 0))) ?_
  refine G.dup (psl encI 1 A ys) ?_
  subst hJ
  -- ponder/ponderkeep.Of[int]$1
  repeat (first | refine g_endt ?_ | refine g_end ?_ | refine g_then ?_ | refine g_in_normal ?_ | refine g_then_ret ?_ | refine g_in_ret ?_ | refine g_then_exit ?_ | refine g_in_exit rfl ?_ | refine g_in_exit_ne (by decide) ?_ | refine g_seq ?_ | refine g_region ?_ | refine g_block ?_ | refine g_ret ?_ | refine g_return_n ?_ | refine g_exit ?_ | refine g_skip ?_)
  refine o_assign ?_
  first | refine g_endt ?_ | refine g_end ?_
  repeat (first | refine g_endt ?_ | refine g_end ?_ | refine g_then ?_ | refine g_in_normal ?_ | refine g_then_ret ?_ | refine g_in_ret ?_ | refine g_then_exit ?_ | refine g_in_exit rfl ?_ | refine g_in_exit_ne (by decide) ?_ | refine g_seq ?_ | refine g_region ?_ | refine g_block ?_ | refine g_ret ?_ | refine g_return_n ?_ | refine g_exit ?_ | refine g_skip ?_)
  refine g_loop (σ := {i : Nat // i ≤ ys.length}) (S := fun i => [(0, .func (.yield l) #[] #[]), (1, .pointer (some ⟨b, 0, none⟩)), (3, .int .i64 ((i.1 : Nat) : Int))])
    (H := fun i => psl encI 1 A ys :: pblk b (.cells #[.slice A len cap] 23 (0, 0)) :: J (ys.take i.1)) (μ := fun i => ys.length - i.1) (s0 := ⟨0, Nat.zero_le _⟩) (Sat.mem ⟨rfl, rfl, rfl, trivial⟩) (t := by simp only [List.take_zero]; infer_instance) ?_
  rintro ⟨i, hi⟩ ρ'
  dsimp only
  repeat (first | refine g_endt ?_ | refine g_end ?_ | refine g_then ?_ | refine g_in_normal ?_ | refine g_then_ret ?_ | refine g_in_ret ?_ | refine g_then_exit ?_ | refine g_in_exit rfl ?_ | refine g_in_exit_ne (by decide) ?_ | refine g_seq ?_ | refine g_region ?_ | refine g_block ?_ | refine g_ret ?_ | refine g_return_n ?_ | refine g_exit ?_ | refine g_skip ?_)
  refine o_move ?_
  refine o_load1 (v := .slice A len cap) rfl rfl ?_
  refine o_len rfl rfl ?_
  refine o_lss rfl rfl ?_
  first | refine g_endt ?_ | refine g_end ?_
  by_cases h : i < len
  · first | refine g_seq (g_cond_t rfl (by first | rfl | (simp; done) | (simp; omega) | (simp; assumption)) ?_) | refine g_cond_t rfl (by first | rfl | (simp; done) | (simp; omega) | (simp; assumption)) ?_
    have hi' : i < ys.length := by omega
    obtain ⟨y, hz⟩ : ∃ y, ys[i]? = some y := ⟨_, List.getElem?_eq_getElem hi'⟩
    have ht := take_snoc ys i _ hz
    repeat (first | refine g_endt ?_ | refine g_end ?_ | refine g_then ?_ | refine g_in_normal ?_ | refine g_then_ret ?_ | refine g_in_ret ?_ | refine g_then_exit ?_ | refine g_in_exit rfl ?_ | refine g_in_exit_ne (by decide) ?_ | refine g_seq ?_ | refine g_region ?_ | refine g_block ?_ | refine g_ret ?_ | refine g_return_n ?_ | refine g_exit ?_ | refine g_skip ?_)
    refine o_move ?_
    refine o_load1 (v := .slice A len cap) rfl rfl ?_
    refine o_move ?_
    refine o_indexR rfl rfl rfl (by first | assumption | omega) (by first | rfl | assumption | omega) rfl ?_
    refine o_loadE0 (enc := encI) (v := valI y) rfl hz rfl ?_
    have hp : (ys.take i ++ [y]) <+: ys := ⟨ys.drop (i + 1), by rw [← ht, List.take_append_drop]⟩
    refine o_yield (hy (ys.take i) y hp) rfl rfl ?_ ?_
    · refine o_not rfl ?_
      refine g_endt ?_
      refine g_cond_f rfl rfl ?_
      repeat (first | refine g_endt ?_ | refine g_end ?_ | refine g_then ?_ | refine g_in_normal ?_ | refine g_then_ret ?_ | refine g_in_ret ?_ | refine g_then_exit ?_ | refine g_in_exit rfl ?_ | refine g_in_exit_ne (by decide) ?_ | refine g_seq ?_ | refine g_region ?_ | refine g_block ?_ | refine g_ret ?_ | refine g_return_n ?_ | refine g_exit ?_ | refine g_skip ?_)
      refine o_move ?_
      refine o_add (c := ((i + 1 : Nat) : Int)) rfl rfl (by omega) (by omega) (by omega) ?_
      refine o_assign ?_
      first | refine g_endt ?_ | refine g_end ?_
      repeat (first | refine g_endt ?_ | refine g_end ?_ | refine g_then ?_ | refine g_in_normal ?_ | refine g_then_ret ?_ | refine g_in_ret ?_ | refine g_then_exit ?_ | refine g_in_exit rfl ?_ | refine g_in_exit_ne (by decide) ?_ | refine g_seq ?_ | refine g_region ?_ | refine g_block ?_ | refine g_ret ?_ | refine g_return_n ?_ | refine g_exit ?_ | refine g_skip ?_)
      exact g_meets ⟨i + 1, hi'⟩ (by show ys.length - (i + 1) < ys.length - i; omega) (Sat.mem ⟨rfl, rfl, rfl, trivial⟩) (t := by rw [ht]; infer_instance)
    · refine o_not rfl ?_
      refine g_endt ?_
      refine g_cond_t rfl rfl ?_
      repeat (first | refine g_endt ?_ | refine g_end ?_ | refine g_then ?_ | refine g_in_normal ?_ | refine g_then_ret ?_ | refine g_in_ret ?_ | refine g_then_exit ?_ | refine g_in_exit rfl ?_ | refine g_in_exit_ne (by decide) ?_ | refine g_seq ?_ | refine g_region ?_ | refine g_block ?_ | refine g_ret ?_ | refine g_return_n ?_ | refine g_exit ?_ | refine g_skip ?_)
      exact ret0 rfl (.inr ⟨_, hp, rfl⟩)
  · first | refine g_seq (g_cond_f rfl (by simp; omega) ?_) | refine g_cond_f rfl (by simp; omega) ?_
    repeat (first | refine g_endt ?_ | refine g_end ?_ | refine g_then ?_ | refine g_in_normal ?_ | refine g_then_ret ?_ | refine g_in_ret ?_ | refine g_then_exit ?_ | refine g_in_exit rfl ?_ | refine g_in_exit_ne (by decide) ?_ | refine g_seq ?_ | refine g_region ?_ | refine g_block ?_ | refine g_ret ?_ | refine g_return_n ?_ | refine g_exit ?_ | refine g_skip ?_)
    have he : ys.take i = ys := List.take_of_length_le (by omega)
    exact ret0 (K := J (ys.take i)) rfl (.inl (by rw [he]))
theorem OfI_spec (A : Option Addr) (len cap : Nat) : Ctr Try.prog 13 [.slice A len cap] []
    (fun v M => ∃ b, v = .func (.func 31) #[] #[.pointer (some ⟨b, 0, none⟩)] ∧ M = [pblk b (.cells #[.slice A len cap] 23 (0, 0))]) := by
  refine spec_of Try.func13 rfl Try.ntmps13 rfl fun w0 F => ?_
  -- ponder/ponderkeep.Of[int]
  repeat (first | refine g_endt ?_ | refine g_end ?_ | refine g_then ?_ | refine g_in_normal ?_ | refine g_then_ret ?_ | refine g_in_ret ?_ | refine g_then_exit ?_ | refine g_in_exit rfl ?_ | refine g_in_exit_ne (by decide) ?_ | refine g_seq ?_ | refine g_region ?_ | refine g_block ?_ | refine g_ret ?_ | refine g_return_n ?_ | refine g_exit ?_ | refine g_skip ?_)
  refine o_boxc #[.slice A len cap] rfl rfl fun b => G.freeze <| ?_
  refine o_assign ?_
  first | refine g_endt ?_ | refine g_end ?_
  repeat (first | refine g_endt ?_ | refine g_end ?_ | refine g_then ?_ | refine g_in_normal ?_ | refine g_then_ret ?_ | refine g_in_ret ?_ | refine g_then_exit ?_ | refine g_in_exit rfl ?_ | refine g_in_exit_ne (by decide) ?_ | refine g_seq ?_ | refine g_region ?_ | refine g_block ?_ | refine g_ret ?_ | refine g_return_n ?_ | refine g_exit ?_ | refine g_skip ?_)
  refine o_func ?_
  refine o_assign ?_
  first | refine g_endt ?_ | refine g_end ?_
  repeat (first | refine g_endt ?_ | refine g_end ?_ | refine g_then ?_ | refine g_in_normal ?_ | refine g_then_ret ?_ | refine g_in_ret ?_ | refine g_then_exit ?_ | refine g_in_exit rfl ?_ | refine g_in_exit_ne (by decide) ?_ | refine g_seq ?_ | refine g_region ?_ | refine g_block ?_ | refine g_ret ?_ | refine g_return_n ?_ | refine g_exit ?_ | refine g_skip ?_)
  exact ret1 rfl (resT rfl) ⟨b, rfl, rfl⟩
end Go.Proofs.Yteokgobeafnpoaa
/- What is told, as a list. -/
namespace Go.Proofs.Yteokgobeafnpoaa
open Go Go.Sl
attribute [local irreducible] Code.wpIn roundPost bodyPostM runL Ret Meets Begin

theorem ListI_spec (gf : FuncId) (lb : List Value) (xs : List Int) {n : Nat} (hn : xs.length = n) (hl : n ≤ 100000) (Ks : List SProp) [En Try.prog gf] (hit : ∀ K, Iter Try.prog gf lb encVI xs (K ++ Ks)) :
    Ctr Try.prog 16 [.func (.func gf) #[] lb.toArray] Ks (fun v M => ∃ S c, v = .slice S n c ∧ M = osl 3 encI 1 S c xs :: Ks) := by
  refine spec_of Try.func16 rfl Try.ntmps16 rfl fun w0 F => ?_
  subst hn
  -- ponder/ponderkeep.List[int]
  repeat (first | refine g_endt ?_ | refine g_end ?_ | refine g_then ?_ | refine g_in_normal ?_ | refine g_then_ret ?_ | refine g_in_ret ?_ | refine g_then_exit ?_ | refine g_in_exit rfl ?_ | refine g_in_exit_ne (by decide) ?_ | refine g_seq ?_ | refine g_region ?_ | refine g_block ?_ | refine g_ret ?_ | refine g_return_n ?_ | refine g_exit ?_ | refine g_skip ?_)
  refine o_assign ?_
  first | refine g_endt ?_ | refine g_end ?_
  repeat (first | refine g_endt ?_ | refine g_end ?_ | refine g_then ?_ | refine g_in_normal ?_ | refine g_then_ret ?_ | refine g_in_ret ?_ | refine g_then_exit ?_ | refine g_in_exit rfl ?_ | refine g_in_exit_ne (by decide) ?_ | refine g_seq ?_ | refine g_region ?_ | refine g_block ?_ | refine g_ret ?_ | refine g_return_n ?_ | refine g_exit ?_ | refine g_skip ?_)
  refine o_alloc fun p => ?_
  first | refine g_endt ?_ | refine g_end ?_
  repeat (first | refine g_endt ?_ | refine g_end ?_ | refine g_then ?_ | refine g_in_normal ?_ | refine g_then_ret ?_ | refine g_in_ret ?_ | refine g_then_exit ?_ | refine g_in_exit rfl ?_ | refine g_in_exit_ne (by decide) ?_ | refine g_seq ?_ | refine g_region ?_ | refine g_block ?_ | refine g_ret ?_ | refine g_return_n ?_ | refine g_exit ?_ | refine g_skip ?_)
  refine o_move ?_
  refine o_fnil rfl (fun w => by kernel_rfl) (fun w => by kernel_rfl) ?_
  first | refine g_endt ?_ | refine g_end ?_
  first | refine g_seq (g_cond_f rfl (by first | rfl | (simp; done) | (simp; omega) | (simp; assumption)) ?_) | refine g_cond_f rfl (by first | rfl | (simp; done) | (simp; omega) | (simp; assumption)) ?_
  repeat (first | refine g_endt ?_ | refine g_end ?_ | refine g_then ?_ | refine g_in_normal ?_ | refine g_then_ret ?_ | refine g_in_ret ?_ | refine g_then_exit ?_ | refine g_in_exit rfl ?_ | refine g_in_exit_ne (by decide) ?_ | refine g_seq ?_ | refine g_region ?_ | refine g_block ?_ | refine g_ret ?_ | refine g_return_n ?_ | refine g_exit ?_ | refine g_skip ?_)
  refine o_move ?_
  first | refine g_endt ?_ | refine g_end ?_
  repeat (first | refine g_endt ?_ | refine g_end ?_ | refine g_then ?_ | refine g_in_normal ?_ | refine g_then_ret ?_ | refine g_in_ret ?_ | refine g_then_exit ?_ | refine g_in_exit rfl ?_ | refine g_in_exit_ne (by decide) ?_ | refine g_seq ?_ | refine g_region ?_ | refine g_block ?_ | refine g_ret ?_ | refine g_return_n ?_ | refine g_exit ?_ | refine g_skip ?_)
  refine G.norm p #[.slice none 0 0] rfl ?_
  refine newGI p ?_
  refine g_range (ps := [8]) (enc := encVI) (xs := xs) rfl (fun pre => [GrowI p pre] ++ Ks) (fun _ _ => [pu False]) (fun K => hit [K, GrowI p []]) (fun _ => rfl) ?_ ?_ ?_
  · intro w0 F l r pre x hp
    have hlen : pre.length < xs.length := by
      obtain ⟨t, ht⟩ := hp
      have := congrArg List.length ht
      simp at this
      omega
    refine openGI p pre fun S e => ?_
    repeat (first | refine g_endt ?_ | refine g_end ?_ | refine g_then ?_ | refine g_in_normal ?_ | refine g_then_ret ?_ | refine g_in_ret ?_ | refine g_then_exit ?_ | refine g_in_exit rfl ?_ | refine g_in_exit_ne (by decide) ?_ | refine g_seq ?_ | refine g_region ?_ | refine g_block ?_ | refine g_ret ?_ | refine g_return_n ?_ | refine g_exit ?_ | refine g_skip ?_)
    refine o_assign ?_
    first | refine g_endt ?_ | refine g_end ?_
    repeat (first | refine g_endt ?_ | refine g_end ?_ | refine g_then ?_ | refine g_in_normal ?_ | refine g_then_ret ?_ | refine g_in_ret ?_ | refine g_then_exit ?_ | refine g_in_exit rfl ?_ | refine g_in_exit_ne (by decide) ?_ | refine g_seq ?_ | refine g_region ?_ | refine g_block ?_ | refine g_ret ?_ | refine g_return_n ?_ | refine g_exit ?_ | refine g_skip ?_)
    refine g_begin ?_
    repeat (first | refine g_endt ?_ | refine g_end ?_ | refine g_then ?_ | refine g_in_normal ?_ | refine g_then_ret ?_ | refine g_in_ret ?_ | refine g_then_exit ?_ | refine g_in_exit rfl ?_ | refine g_in_exit_ne (by decide) ?_ | refine g_seq ?_ | refine g_region ?_ | refine g_block ?_ | refine g_ret ?_ | refine g_return_n ?_ | refine g_exit ?_ | refine g_skip ?_)
    first | refine o_load1 rfl rfl ?_ | refine o_loadE0 rfl (by assumption) rfl ?_ | refine o_loadE1 rfl (by assumption) rfl ?_
    refine o_move ?_
    refine o_litP (e := 3) encI [x] (valI x).cells (fun w => by kernel_rfl) (rfl) (by simp [maxLen]) fun _ => ?_
    refine o_append (xs := pre) (ys := [x]) (by first | rfl | (simp only [List.length_map, List.length_take, List.length_append]; first | rfl | (congr 1; omega))) rfl rfl rfl rfl (fun _ => .inr trivial) (by simp [maxLen]; omega) (by simp; omega) fun S2 e2 => ?_
    refine o_store (v := .slice S2 (pre.length + 1) e2) rfl rfl rfl rfl rfl ?_
    first | refine g_endt ?_ | refine g_end ?_
    refine G.norm p #[.slice S2 (pre.length + 1) e2] rfl ?_
    refine shutGI p (pre ++ [x]) S2 e2 (n := pre.length + 1) (by simp) ?_
    repeat (first | refine g_endt ?_ | refine g_end ?_ | refine g_then ?_ | refine g_in_normal ?_ | refine g_then_ret ?_ | refine g_in_ret ?_ | refine g_then_exit ?_ | refine g_in_exit rfl ?_ | refine g_in_exit_ne (by decide) ?_ | refine g_seq ?_ | refine g_region ?_ | refine g_block ?_ | refine g_ret ?_ | refine g_return_n ?_ | refine g_exit ?_ | refine g_skip ?_)
    exact g_next
  · intro D
    refine openGI p xs fun S e => ?_
    repeat (first | refine g_endt ?_ | refine g_end ?_ | refine g_then ?_ | refine g_in_normal ?_ | refine g_then_ret ?_ | refine g_in_ret ?_ | refine g_then_exit ?_ | refine g_in_exit rfl ?_ | refine g_in_exit_ne (by decide) ?_ | refine g_seq ?_ | refine g_region ?_ | refine g_block ?_ | refine g_ret ?_ | refine g_return_n ?_ | refine g_exit ?_ | refine g_skip ?_)
    first | refine o_load1 rfl rfl ?_ | refine o_loadE0 rfl (by assumption) rfl ?_ | refine o_loadE1 rfl (by assumption) rfl ?_
    refine o_assign ?_
    first | refine g_endt ?_ | refine g_end ?_
    repeat (first | refine g_endt ?_ | refine g_end ?_ | refine g_then ?_ | refine g_in_normal ?_ | refine g_then_ret ?_ | refine g_in_ret ?_ | refine g_then_exit ?_ | refine g_in_exit rfl ?_ | refine g_in_exit_ne (by decide) ?_ | refine g_seq ?_ | refine g_region ?_ | refine g_block ?_ | refine g_ret ?_ | refine g_return_n ?_ | refine g_exit ?_ | refine g_skip ?_)
    exact ret1 (K := osl 3 encI 1 S e xs :: Ks) rfl (resT rfl) ⟨S, e, rfl, rfl⟩
  · intro D c pre hp
    exact G.pu fun h => h.elim
end Go.Proofs.Yteokgobeafnpoaa
/- Acts on what goals depend on: as arguments, too heavy ones, the example. -/
namespace Go.Proofs.Yteokgobeafnpoaa
open Go Go.Sl
attribute [local irreducible] Exit.then Exit.inBlock Code.wpIn roundPost bodyPostM runL Ret Meets MeetsD Begin

structure DaD where
  d : Int
  n : Int
  r : RowG Int
def encDA (x : DaD) : List Value := [.int .i64 x.d, .int .i64 x.n, .slice x.r.a x.r.len x.r.cap]
instance : EncLen encDA 3 := ⟨fun _ => rfl, fun e u h => by simp [encDA] at h; rcases h with h | h | h <;> subst h <;> rfl⟩
def DaD.tags (x : DaD) : List NumD := x.r.zs.map NumD.mk
def heavyD (ys : List DaD) : Bool := decide (60 < ys.length) || ys.any fun q => decide (30 < q.r.len)
theorem heavy_no {ys : List DaD} (h : heavyD ys = false) : ys.length ≤ 60 ∧ ∀ q ∈ ys, q.r.len ≤ 30 := by
  unfold heavyD at h
  rw [Bool.or_eq_false_iff, decide_eq_false_iff_not, List.any_eq_false] at h
  exact ⟨by omega, fun q hq => by have := h.2 q hq; simpa using this⟩
theorem heavyD_spec (A : Option Addr) (n c : Nat) (ys : List DaD) (hl : ys.length = n) (hm : n ≤ 9223372036854775807) {b : Bool} (hb : heavyD ys = b) : Ctr Try.prog 9 [.slice A n c] [psl encDA 3 A ys] (fun v M => v = .bool b ∧ M = []) := by
  refine spec_of Try.func9 rfl Try.ntmps9 rfl fun w0 F => ?_
  -- hide
  -- ponder/ponderlaw20.heavy
  subst hb
  repeat (first | refine g_endt ?_ | refine g_end ?_ | refine g_then ?_ | refine g_in_normal ?_ | refine g_then_ret ?_ | refine g_in_ret ?_ | refine g_then_exit ?_ | refine g_in_exit rfl ?_ | refine g_in_exit_ne (by decide) ?_ | refine g_seq ?_ | refine g_region ?_ | refine g_block ?_ | refine g_ret ?_ | refine g_return_n ?_ | refine g_exit ?_ | refine g_skip ?_)
  refine g_hideR fun Q_ hQ_ => ?_
  refine o_assign ?_
  refine g_end (G.imp (hQ_ .normal _) ?_)
  clear hQ_ Q_
  try refine g_then ?_
  by_cases h1 : 60 < n
  · skip
    repeat (first | refine g_endt ?_ | refine g_end ?_ | refine g_then ?_ | refine g_in_normal ?_ | refine g_then_ret ?_ | refine g_in_ret ?_ | refine g_then_exit ?_ | refine g_in_exit rfl ?_ | refine g_in_exit_ne (by decide) ?_ | refine g_seq ?_ | refine g_region ?_ | refine g_block ?_ | refine g_ret ?_ | refine g_return_n ?_ | refine g_exit ?_ | refine g_skip ?_)
    refine g_hideR fun Q_ hQ_ => ?_
    refine o_move ?_
    refine o_len rfl rfl ?_
    refine o_gtr rfl rfl ?_
    refine g_end (G.imp (hQ_ .normal _) ?_)
    clear hQ_ Q_
    try refine g_then ?_
    first | refine g_seq (g_cond_t rfl (by simp; omega) ?_) | refine g_cond_t rfl (by simp; omega) ?_
    repeat (first | refine g_endt ?_ | refine g_end ?_ | refine g_then ?_ | refine g_in_normal ?_ | refine g_then_ret ?_ | refine g_in_ret ?_ | refine g_then_exit ?_ | refine g_in_exit rfl ?_ | refine g_in_exit_ne (by decide) ?_ | refine g_seq ?_ | refine g_region ?_ | refine g_block ?_ | refine g_ret ?_ | refine g_return_n ?_ | refine g_exit ?_ | refine g_skip ?_)
    refine g_hideR fun Q_ hQ_ => ?_
    refine o_assign ?_
    refine g_end (G.imp (hQ_ .normal _) ?_)
    clear hQ_ Q_
    try refine g_then ?_
    repeat (first | refine g_endt ?_ | refine g_end ?_ | refine g_then ?_ | refine g_in_normal ?_ | refine g_then_ret ?_ | refine g_in_ret ?_ | refine g_then_exit ?_ | refine g_in_exit rfl ?_ | refine g_in_exit_ne (by decide) ?_ | refine g_seq ?_ | refine g_region ?_ | refine g_block ?_ | refine g_ret ?_ | refine g_return_n ?_ | refine g_exit ?_ | refine g_skip ?_)
    have : heavyD ys = true := by unfold heavyD; rw [decide_eq_true (by omega)]; rfl
    exact ret1 (K := []) rfl (resT (v := .bool true) rfl) ⟨by rw [this], rfl⟩
  repeat (first | refine g_endt ?_ | refine g_end ?_ | refine g_then ?_ | refine g_in_normal ?_ | refine g_then_ret ?_ | refine g_in_ret ?_ | refine g_then_exit ?_ | refine g_in_exit rfl ?_ | refine g_in_exit_ne (by decide) ?_ | refine g_seq ?_ | refine g_region ?_ | refine g_block ?_ | refine g_ret ?_ | refine g_return_n ?_ | refine g_exit ?_ | refine g_skip ?_)
  refine g_hideR fun Q_ hQ_ => ?_
  refine o_move ?_
  refine o_len rfl rfl ?_
  refine o_gtr rfl rfl ?_
  refine g_end (G.imp (hQ_ .normal _) ?_)
  clear hQ_ Q_
  try refine g_then ?_
  first | refine g_seq (g_cond_f rfl (by simp; omega) ?_) | refine g_cond_f rfl (by simp; omega) ?_
  repeat (first | refine g_endt ?_ | refine g_end ?_ | refine g_then ?_ | refine g_in_normal ?_ | refine g_then_ret ?_ | refine g_in_ret ?_ | refine g_then_exit ?_ | refine g_in_exit rfl ?_ | refine g_in_exit_ne (by decide) ?_ | refine g_seq ?_ | refine g_region ?_ | refine g_block ?_ | refine g_ret ?_ | refine g_return_n ?_ | refine g_exit ?_ | refine g_skip ?_)
  refine g_hideR fun Q_ hQ_ => ?_
  refine o_assign ?_
  refine g_end (G.imp (hQ_ .normal _) ?_)
  clear hQ_ Q_
  try refine g_then ?_
  repeat (first | refine g_endt ?_ | refine g_end ?_ | refine g_then ?_ | refine g_in_normal ?_ | refine g_then_ret ?_ | refine g_in_ret ?_ | refine g_then_exit ?_ | refine g_in_exit rfl ?_ | refine g_in_exit_ne (by decide) ?_ | refine g_seq ?_ | refine g_region ?_ | refine g_block ?_ | refine g_ret ?_ | refine g_return_n ?_ | refine g_exit ?_ | refine g_skip ?_)
  refine g_loop (σ := {i : Nat // i ≤ n ∧ ∀ q ∈ ys.take i, ¬ 30 < q.r.len}) (S := fun i => [(0, .slice A n c), (3, .int .i64 (i.1 : Int))]) (H := fun _ => [psl encDA 3 A ys]) (μ := fun i => n - i.1) (s0 := ⟨0, Nat.zero_le _, by simp⟩) (Sat.mem ⟨rfl, rfl, trivial⟩) ?_
  rintro ⟨i, hi, hlow⟩ ρ'
  dsimp only at hi hlow ⊢
  repeat (first | refine g_endt ?_ | refine g_end ?_ | refine g_then ?_ | refine g_in_normal ?_ | refine g_then_ret ?_ | refine g_in_ret ?_ | refine g_then_exit ?_ | refine g_in_exit rfl ?_ | refine g_in_exit_ne (by decide) ?_ | refine g_seq ?_ | refine g_region ?_ | refine g_block ?_ | refine g_ret ?_ | refine g_return_n ?_ | refine g_exit ?_ | refine g_skip ?_)
  refine g_hideR fun Q_ hQ_ => ?_
  refine o_move ?_
  refine o_move ?_
  refine o_len rfl rfl ?_
  refine o_lss rfl rfl ?_
  refine g_end (G.imp (hQ_ .normal _) ?_)
  clear hQ_ Q_
  try refine g_then ?_
  by_cases hin : i < n
  · first | refine g_seq (g_cond_t rfl (by first | rfl | (simp; done) | (simp; omega) | (simp; assumption)) ?_) | refine g_cond_t rfl (by first | rfl | (simp; done) | (simp; omega) | (simp; assumption)) ?_
    obtain ⟨q, hq⟩ : ∃ q, ys[i]? = some q := ⟨_, List.getElem?_eq_getElem (by omega)⟩
    repeat (first | refine g_endt ?_ | refine g_end ?_ | refine g_then ?_ | refine g_in_normal ?_ | refine g_then_ret ?_ | refine g_in_ret ?_ | refine g_then_exit ?_ | refine g_in_exit rfl ?_ | refine g_in_exit_ne (by decide) ?_ | refine g_seq ?_ | refine g_region ?_ | refine g_block ?_ | refine g_ret ?_ | refine g_return_n ?_ | refine g_exit ?_ | refine g_skip ?_)
    refine g_hideR fun Q_ hQ_ => ?_
    refine o_move ?_
    refine o_move ?_
    refine o_indexR (ys := ys) (i := i) rfl rfl rfl (by omega) hl rfl ?_
    refine o_fieldR rfl (by omega) ?_
    refine o_loadE1 (ys := ys) (v := .slice q.r.a q.r.len q.r.cap) rfl hq rfl ?_
    refine o_len rfl rfl ?_
    refine o_gtr rfl rfl ?_
    refine g_end (G.imp (hQ_ .normal _) ?_)
    clear hQ_ Q_
    try refine g_then ?_
    by_cases h2 : 30 < q.r.len
    · first | refine g_seq (g_cond_t rfl (by simp; omega) ?_) | refine g_cond_t rfl (by simp; omega) ?_
      repeat (first | refine g_endt ?_ | refine g_end ?_ | refine g_then ?_ | refine g_in_normal ?_ | refine g_then_ret ?_ | refine g_in_ret ?_ | refine g_then_exit ?_ | refine g_in_exit rfl ?_ | refine g_in_exit_ne (by decide) ?_ | refine g_seq ?_ | refine g_region ?_ | refine g_block ?_ | refine g_ret ?_ | refine g_return_n ?_ | refine g_exit ?_ | refine g_skip ?_)
      refine g_hideR fun Q_ hQ_ => ?_
      refine o_assign ?_
      refine g_end (G.imp (hQ_ .normal _) ?_)
      clear hQ_ Q_
      try refine g_then ?_
      repeat (first | refine g_endt ?_ | refine g_end ?_ | refine g_then ?_ | refine g_in_normal ?_ | refine g_then_ret ?_ | refine g_in_ret ?_ | refine g_then_exit ?_ | refine g_in_exit rfl ?_ | refine g_in_exit_ne (by decide) ?_ | refine g_seq ?_ | refine g_region ?_ | refine g_block ?_ | refine g_ret ?_ | refine g_return_n ?_ | refine g_exit ?_ | refine g_skip ?_)
      have : heavyD ys = true := by
        unfold heavyD
        rw [Bool.or_eq_true, List.any_eq_true]
        exact .inr ⟨q, List.mem_of_getElem? hq, decide_eq_true h2⟩
      exact ret1 (K := []) rfl (resT (v := .bool true) rfl) ⟨by rw [this], rfl⟩
    · first | refine g_seq (g_cond_f rfl (by simp; omega) ?_) | refine g_cond_f rfl (by simp; omega) ?_
      repeat (first | refine g_endt ?_ | refine g_end ?_ | refine g_then ?_ | refine g_in_normal ?_ | refine g_then_ret ?_ | refine g_in_ret ?_ | refine g_then_exit ?_ | refine g_in_exit rfl ?_ | refine g_in_exit_ne (by decide) ?_ | refine g_seq ?_ | refine g_region ?_ | refine g_block ?_ | refine g_ret ?_ | refine g_return_n ?_ | refine g_exit ?_ | refine g_skip ?_)
      repeat (first | refine g_endt ?_ | refine g_end ?_ | refine g_then ?_ | refine g_in_normal ?_ | refine g_then_ret ?_ | refine g_in_ret ?_ | refine g_then_exit ?_ | refine g_in_exit rfl ?_ | refine g_in_exit_ne (by decide) ?_ | refine g_seq ?_ | refine g_region ?_ | refine g_block ?_ | refine g_ret ?_ | refine g_return_n ?_ | refine g_exit ?_ | refine g_skip ?_)
      refine g_hideR fun Q_ hQ_ => ?_
      refine o_move ?_
      refine o_add (c := ((i + 1 : Nat) : Int)) rfl rfl (by omega) (by omega) (by omega) ?_
      refine o_assign ?_
      refine g_end (G.imp (hQ_ .normal _) ?_)
      clear hQ_ Q_
      try refine g_then ?_
      repeat (first | refine g_endt ?_ | refine g_end ?_ | refine g_then ?_ | refine g_in_normal ?_ | refine g_then_ret ?_ | refine g_in_ret ?_ | refine g_then_exit ?_ | refine g_in_exit rfl ?_ | refine g_in_exit_ne (by decide) ?_ | refine g_seq ?_ | refine g_region ?_ | refine g_block ?_ | refine g_ret ?_ | refine g_return_n ?_ | refine g_exit ?_ | refine g_skip ?_)
      exact g_meets ⟨i + 1, hin, fun y hy => by
        rw [List.take_add_one, hq] at hy
        rcases List.mem_append.1 hy with hy | hy
        · exact hlow y hy
        · simp at hy; subst hy; exact h2⟩ (by show n - (i + 1) < n - i; omega) (Sat.mem ⟨rfl, rfl, trivial⟩)
  · first | refine g_seq (g_cond_f rfl (by simp; omega) ?_) | refine g_cond_f rfl (by simp; omega) ?_
    repeat (first | refine g_endt ?_ | refine g_end ?_ | refine g_then ?_ | refine g_in_normal ?_ | refine g_then_ret ?_ | refine g_in_ret ?_ | refine g_then_exit ?_ | refine g_in_exit rfl ?_ | refine g_in_exit_ne (by decide) ?_ | refine g_seq ?_ | refine g_region ?_ | refine g_block ?_ | refine g_ret ?_ | refine g_return_n ?_ | refine g_exit ?_ | refine g_skip ?_)
    refine g_hideR fun Q_ hQ_ => ?_
    refine o_assign ?_
    refine g_end (G.imp (hQ_ .normal _) ?_)
    clear hQ_ Q_
    try refine g_then ?_
    repeat (first | refine g_endt ?_ | refine g_end ?_ | refine g_then ?_ | refine g_in_normal ?_ | refine g_then_ret ?_ | refine g_in_ret ?_ | refine g_then_exit ?_ | refine g_in_exit rfl ?_ | refine g_in_exit_ne (by decide) ?_ | refine g_seq ?_ | refine g_region ?_ | refine g_block ?_ | refine g_ret ?_ | refine g_return_n ?_ | refine g_exit ?_ | refine g_skip ?_)
    rw [List.take_of_length_le (by omega)] at hlow
    have : heavyD ys = false := by
      unfold heavyD
      rw [Bool.or_eq_false_iff, decide_eq_false_iff_not, List.any_eq_false]
      exact ⟨by omega, fun y hy => by have := hlow y hy; simpa using this⟩
    exact ret1 (K := []) rfl (resT (v := .bool false) rfl) ⟨by rw [this], rfl⟩
theorem AddK_spec (d : Nat) (T : DpT) (k : Int) (gf : FuncId) (lb : List Value) (xs : List Int) (hx : xs.length ≤ 1000000) (hb : ∀ j, (T j).length ≤ 1000000) (Ks : List SProp) [En Try.prog gf] (hit : ∀ K, Iter Try.prog gf lb encVI xs (K ++ Ks)) {b : Bool} {T' : DpT} (h1 : lvl k = b) (h2 : addD T k (xs.map NumD.mk) = T') :
    Ctr Try.prog 11 [.pointer (some ⟨d, 0, none⟩), .int .i64 k, .func (.func gf) #[] lb.toArray] (DepP d T :: Ks) (fun v M => v = .bool b ∧ M = DepP d T' :: Ks) := by
  rw [← h1, ← h2]; exact AddDp_spec d T k gf lb xs hx hb Ks hit
theorem HitK_spec (d : Nat) (T : DpT) (gf : FuncId) (lb : List Value) (xs : List Int) (hx : xs.length ≤ 100000) (hb : ∀ j, (T j).length ≤ 100000) (Ks : List SProp) [En Try.prog gf] (hit : ∀ K, Iter Try.prog gf lb encVI xs (K ++ Ks)) {v0 : Int} (h : hitT T (xs.map NumD.mk) = v0) :
    Ctr Try.prog 14 [.pointer (some ⟨d, 0, none⟩), .func (.func gf) #[] lb.toArray] (DepP d T :: Ks) (fun v M => v = .int .i64 v0 ∧ M = DepP d T :: Ks) := by
  rw [← h]; exact HitDp_spec d T gf lb xs hx hb Ks hit
/-! ### The document's example -/
def wkT : DpT := addD (addD dp0 3 [⟨7⟩]) 2 [⟨9⟩]
theorem wkT_hit : hitT wkT [⟨7⟩, ⟨9⟩] = 2 := by decide
theorem wkT_len (j : Int) : (wkT j).length ≤ 2 := by
  unfold wkT addD dp0
  split
  · decide
  · split
    · decide
    · decide
theorem wkT_len1 (j : Int) : (addD dp0 3 [⟨7⟩] j).length ≤ 2 := by
  unfold addD dp0
  split <;> decide
set_option maxHeartbeats 1000000 in
theorem wakes20_spec : Ctr Try.prog 10 [] [] (fun v M => v = .bool true ∧ M = []) := by
  refine spec_of Try.func10 rfl Try.ntmps10 rfl fun w0 F => ?_
  -- hide
  -- ponder/ponderlaw20.wakes
  repeat (first | refine g_endt ?_ | refine g_end ?_ | refine g_then ?_ | refine g_in_normal ?_ | refine g_then_ret ?_ | refine g_in_ret ?_ | refine g_then_exit ?_ | refine g_in_exit rfl ?_ | refine g_in_exit_ne (by decide) ?_ | refine g_seq ?_ | refine g_region ?_ | refine g_block ?_ | refine g_ret ?_ | refine g_return_n ?_ | refine g_exit ?_ | refine g_skip ?_)
  refine g_hideR fun Q_ hQ_ => ?_
  refine o_assign ?_
  refine g_end (G.imp (hQ_ .normal _) ?_)
  clear hQ_ Q_
  try refine g_then ?_
  repeat (first | refine g_endt ?_ | refine g_end ?_ | refine g_then ?_ | refine g_in_normal ?_ | refine g_then_ret ?_ | refine g_in_ret ?_ | refine g_then_exit ?_ | refine g_in_exit rfl ?_ | refine g_in_exit_ne (by decide) ?_ | refine g_seq ?_ | refine g_region ?_ | refine g_block ?_ | refine g_ret ?_ | refine g_return_n ?_ | refine g_exit ?_ | refine g_skip ?_)
  refine g_hideR fun Q_ hQ_ => ?_
  refine o_call (NewDp_spec) rfl rfl ?_
  rintro _ _ ⟨d, rfl, rfl⟩
  refine o_assign ?_
  refine g_end (G.imp (hQ_ .normal _) ?_)
  clear hQ_ Q_
  try refine g_then ?_
  repeat (first | refine g_endt ?_ | refine g_end ?_ | refine g_then ?_ | refine g_in_normal ?_ | refine g_then_ret ?_ | refine g_in_ret ?_ | refine g_then_exit ?_ | refine g_in_exit rfl ?_ | refine g_in_exit_ne (by decide) ?_ | refine g_seq ?_ | refine g_region ?_ | refine g_block ?_ | refine g_ret ?_ | refine g_return_n ?_ | refine g_exit ?_ | refine g_skip ?_)
  refine g_hideR fun Q_ hQ_ => ?_
  refine o_move ?_
  refine o_peql rfl ?_
  refine g_end (G.imp (hQ_ .normal _) ?_)
  clear hQ_ Q_
  try refine g_then ?_
  first | refine g_seq (g_cond_f rfl (by first | rfl | (simp; done) | (simp; omega) | (simp; assumption)) ?_) | refine g_cond_f rfl (by first | rfl | (simp; done) | (simp; omega) | (simp; assumption)) ?_
  repeat (first | refine g_endt ?_ | refine g_end ?_ | refine g_then ?_ | refine g_in_normal ?_ | refine g_then_ret ?_ | refine g_in_ret ?_ | refine g_then_exit ?_ | refine g_in_exit rfl ?_ | refine g_in_exit_ne (by decide) ?_ | refine g_seq ?_ | refine g_region ?_ | refine g_block ?_ | refine g_ret ?_ | refine g_return_n ?_ | refine g_exit ?_ | refine g_skip ?_)
  refine g_hideR fun Q_ hQ_ => ?_
  refine o_move ?_
  refine o_litP (e := 3) encI [7] #[.int .i64 7] (fun w => by kernel_rfl) rfl (by simp [maxLen]) fun S1 => ?_
  refine o_call (OfI_spec (some ⟨S1, 0, none⟩) 1 1) rfl rfl ?_
  rintro _ _ ⟨b1, rfl, rfl⟩
  refine o_call (AddK_spec d dp0 3 31 [.pointer (some ⟨b1, 0, none⟩)] [7] (by decide) (fun j => by simp [dp0]) [pblk b1 (.cells #[.slice (some ⟨S1, 0, none⟩) 1 1] 23 (0, 0)), psl encI 1 (some ⟨S1, 0, none⟩) [7]] (fun K => Of1I_iter b1 (some ⟨S1, 0, none⟩) 1 1 [7] rfl (by decide) _) (b := true) (T' := addD dp0 3 [⟨7⟩]) rfl rfl) rfl rfl ?_
  rintro _ _ ⟨rfl, rfl⟩
  refine o_move ?_
  first | (refine o_want rfl rfl rfl rfl rfl ?_; refine o_move ?_) | refine o_unwanted rfl rfl rfl rfl rfl ?_ | refine o_undef rfl rfl rfl ?_
  refine o_want rfl rfl rfl rfl rfl (o_litP (e := 3) encI [9] #[.int .i64 9] (fun w => by kernel_rfl) rfl (by simp [maxLen]) fun S2 => ?_)
  refine o_want rfl rfl rfl rfl rfl (o_call (OfI_spec (some ⟨S2, 0, none⟩) 1 1) rfl rfl ?_)
  rintro _ _ ⟨b2, rfl, rfl⟩
  refine o_want rfl rfl rfl rfl rfl (o_call (AddK_spec d (addD dp0 3 [⟨7⟩]) 2 31 [.pointer (some ⟨b2, 0, none⟩)] [9] (by decide) (fun j => Nat.le_trans (wkT_len1 j) (by decide)) [pblk b2 (.cells #[.slice (some ⟨S2, 0, none⟩) 1 1] 23 (0, 0)), psl encI 1 (some ⟨S2, 0, none⟩) [9]] (fun K => Of1I_iter b2 (some ⟨S2, 0, none⟩) 1 1 [9] rfl (by decide) _) (b := true) (T' := wkT) rfl rfl) rfl rfl ?_)
  rintro _ _ ⟨rfl, rfl⟩
  first | refine o_pick_t rfl rfl ?_ | refine o_pick_f rfl rfl ?_
  refine o_move ?_
  first | (refine o_want rfl rfl rfl rfl rfl ?_; refine o_move ?_) | refine o_unwanted rfl rfl rfl rfl rfl ?_ | refine o_undef rfl rfl rfl ?_
  refine o_want rfl rfl rfl rfl rfl (o_litP (e := 3) encI [7, 9] #[.int .i64 7, .int .i64 9] (fun w => by kernel_rfl) rfl (by simp [maxLen]) fun S3 => ?_)
  refine o_want rfl rfl rfl rfl rfl (o_call (OfI_spec (some ⟨S3, 0, none⟩) 2 2) rfl rfl ?_)
  rintro _ _ ⟨b3, rfl, rfl⟩
  refine o_want rfl rfl rfl rfl rfl (o_call (HitK_spec d wkT 31 [.pointer (some ⟨b3, 0, none⟩)] [7, 9] (by decide) (fun j => Nat.le_trans (wkT_len j) (by decide)) [pblk b3 (.cells #[.slice (some ⟨S3, 0, none⟩) 2 2] 23 (0, 0)), psl encI 1 (some ⟨S3, 0, none⟩) [7, 9]] (fun K => Of1I_iter b3 (some ⟨S3, 0, none⟩) 2 2 [7, 9] rfl (by decide) _) (v0 := 2) wkT_hit) rfl rfl ?_)
  rintro _ _ ⟨rfl, rfl⟩
  first | (refine o_want rfl rfl rfl rfl rfl ?_; refine o_eql rfl rfl ?_) | refine o_unwanted rfl rfl rfl rfl rfl ?_ | refine o_undef rfl rfl rfl ?_
  first | refine o_pick_t rfl rfl ?_ | refine o_pick_f rfl rfl ?_
  refine o_assign ?_
  refine g_end (G.imp (hQ_ .normal _) ?_)
  clear hQ_ Q_
  try refine g_then ?_
  repeat (first | refine g_endt ?_ | refine g_end ?_ | refine g_then ?_ | refine g_in_normal ?_ | refine g_then_ret ?_ | refine g_in_ret ?_ | refine g_then_exit ?_ | refine g_in_exit rfl ?_ | refine g_in_exit_ne (by decide) ?_ | refine g_seq ?_ | refine g_region ?_ | refine g_block ?_ | refine g_ret ?_ | refine g_return_n ?_ | refine g_exit ?_ | refine g_skip ?_)
  exact ret1 (K := []) rfl (resT (v := .bool true) rfl) ⟨rfl, rfl⟩
/-! ### Bounds -/
structure OkT (T : DpT) (B : Nat) : Prop where
  len : ∀ j, (T j).length ≤ B
  srt : ∀ j, Srt NumD.cmp (T j)
  rng : ∀ j, T j ≠ [] → 2 ≤ j ∧ j ≤ 8
theorem OkT.nil : OkT dp0 0 := ⟨fun _ => Nat.le_refl _, fun _ => Srt.nil, fun _ h => absurd rfl h⟩
theorem OkT.add {T : DpT} {B : Nat} (h : OkT T B) (k : Int) {l : List NumD} (hl : l.length ≤ 30) : OkT (addD T k l) (B + 30) :=
  ⟨fun j => by
    unfold addD; split
    · have := fold_len_le l (T k); have := h.len k; omega
    · have := h.len j; omega, fun j => by
    unfold addD; split
    · exact fold_srt l _ (h.srt k)
    · exact h.srt j, fun j hj => by
    unfold addD at hj
    split at hj
    · rename_i e; rw [e.1]; exact lvl_iff.1 e.2
    · exact h.rng j hj⟩
theorem OkT.cut {T : DpT} {B : Nat} (h : OkT T B) (lv : Int) : OkT (cutD T lv) B :=
  ⟨fun j => by unfold cutD; split; exact Nat.zero_le _; exact h.len j, fun j => by unfold cutD; split; exact Srt.nil; exact h.srt j, fun j hj => by
    unfold cutD at hj; split at hj
    · exact absurd rfl hj
    · exact h.rng j hj⟩
theorem OkT.mono {T : DpT} {B C : Nat} (h : OkT T B) (hc : B ≤ C) : OkT T C := ⟨fun j => Nat.le_trans (h.len j) hc, h.srt, h.rng⟩
/-- All of these added. -/
def allD (ys : List DaD) : DpT := ys.foldl (fun T q => addD T q.n q.tags) dp0
theorem allD_snoc (ys : List DaD) (q : DaD) : allD (ys ++ [q]) = addD (allD ys) q.n q.tags := by unfold allD; rw [List.foldl_append]; rfl
theorem allD_take {ys : List DaD} {i : Nat} {q : DaD} (h : ys[i]? = some q) : allD (ys.take (i + 1)) = addD (allD (ys.take i)) q.n q.tags := by
  rw [List.take_add_one, h]; exact allD_snoc _ _
theorem allD_ok : ∀ (ys : List DaD) (T : DpT) (B : Nat), OkT T B → (∀ q ∈ ys, q.tags.length ≤ 30) → OkT (ys.foldl (fun T q => addD T q.n q.tags) T) (B + 30 * ys.length)
  | [], _, _, h, _ => h
  | q :: ys, T, B, h, hq => by
    have := allD_ok ys _ (B + 30) (h.add q.n (hq q List.mem_cons_self)) fun x hx => hq x (List.mem_cons_of_mem _ hx)
    refine this.mono ?_
    rw [List.length_cons]; omega
theorem allD_take_ok {ys : List DaD} (hl : ys.length ≤ 60) (ht : ∀ q ∈ ys, q.tags.length ≤ 30) (i : Nat) : OkT (allD (ys.take i)) 1800 := by
  have h := allD_ok (ys.take i) dp0 0 OkT.nil fun q hq => ht q (List.mem_of_mem_take hq)
  refine h.mono ?_
  have : (ys.take i).length ≤ ys.length := by simp; omega
  omega
end Go.Proofs.Yteokgobeafnpoaa
/- The first of what is told, as a list; what was there stays. -/
namespace Go.Proofs.Yteokgobeafnpoaa
open Go Go.Sl
attribute [local irreducible] Code.wpIn roundPost bodyPostM runL Ret Meets Begin

theorem FirstKI_spec (gf : FuncId) (lb : List Value) (n : Nat) (hn : n ≤ 1000000) (xs : List Int) (hl : xs.length ≤ 100000) (Ks : List SProp) [En Try.prog gf] (hit : ∀ K, Iter Try.prog gf lb encVI xs (K ++ Ks)) (hlast : n ≤ xs.length) :
    Ctr Try.prog 20 [.func (.func gf) #[] lb.toArray, .int .i64 (n : Int)] Ks (fun v M => ∃ S c, v = .slice S n c ∧ M = osl 3 encI 1 S c (xs.take n) :: Ks) := by
  refine spec_of Try.func20 rfl Try.ntmps20 rfl fun w0 F => ?_
  -- ponder/ponderkeep.First[int]
  repeat (first | refine g_endt ?_ | refine g_end ?_ | refine g_then ?_ | refine g_in_normal ?_ | refine g_then_ret ?_ | refine g_in_ret ?_ | refine g_then_exit ?_ | refine g_in_exit rfl ?_ | refine g_in_exit_ne (by decide) ?_ | refine g_seq ?_ | refine g_region ?_ | refine g_block ?_ | refine g_ret ?_ | refine g_return_n ?_ | refine g_exit ?_ | refine g_skip ?_)
  refine o_boxc #[.int .i64 (n : Int)] rfl rfl fun bn => ?_
  refine o_assign ?_
  first | refine g_endt ?_ | refine g_end ?_
  repeat (first | refine g_endt ?_ | refine g_end ?_ | refine g_then ?_ | refine g_in_normal ?_ | refine g_then_ret ?_ | refine g_in_ret ?_ | refine g_then_exit ?_ | refine g_in_exit rfl ?_ | refine g_in_exit_ne (by decide) ?_ | refine g_seq ?_ | refine g_region ?_ | refine g_block ?_ | refine g_ret ?_ | refine g_return_n ?_ | refine g_exit ?_ | refine g_skip ?_)
  refine o_alloc fun p => ?_
  first | refine g_endt ?_ | refine g_end ?_
  repeat (first | refine g_endt ?_ | refine g_end ?_ | refine g_then ?_ | refine g_in_normal ?_ | refine g_then_ret ?_ | refine g_in_ret ?_ | refine g_then_exit ?_ | refine g_in_exit rfl ?_ | refine g_in_exit_ne (by decide) ?_ | refine g_seq ?_ | refine g_region ?_ | refine g_block ?_ | refine g_ret ?_ | refine g_return_n ?_ | refine g_exit ?_ | refine g_skip ?_)
  refine o_move ?_
  refine o_fnil rfl (fun w => by kernel_rfl) (fun w => by kernel_rfl) ?_
  refine o_move ?_
  first | (refine o_want rfl rfl rfl rfl rfl ?_; (first | refine o_load1 rfl rfl ?_ | refine o_loadE0 rfl (by assumption) rfl ?_ | refine o_loadE1 rfl (by assumption) rfl ?_)) | refine o_unwanted rfl rfl rfl rfl rfl ?_ | refine o_undef rfl rfl rfl ?_
  first | (refine o_want rfl rfl rfl rfl rfl ?_; refine o_lss rfl rfl ?_) | refine o_unwanted rfl rfl rfl rfl rfl ?_ | refine o_undef rfl rfl rfl ?_
  first | refine o_pick_t rfl rfl ?_ | refine o_pick_f rfl rfl ?_
  first | refine g_endt ?_ | refine g_end ?_
  by_cases h0 : n < 1
  · first | refine g_seq (g_cond_t rfl (by simp; omega) ?_) | refine g_cond_t rfl (by simp; omega) ?_
    repeat (first | refine g_endt ?_ | refine g_end ?_ | refine g_then ?_ | refine g_in_normal ?_ | refine g_then_ret ?_ | refine g_in_ret ?_ | refine g_then_exit ?_ | refine g_in_exit rfl ?_ | refine g_in_exit_ne (by decide) ?_ | refine g_seq ?_ | refine g_region ?_ | refine g_block ?_ | refine g_ret ?_ | refine g_return_n ?_ | refine g_exit ?_ | refine g_skip ?_)
    refine o_assign ?_
    first | refine g_endt ?_ | refine g_end ?_
    have : n = 0 := by omega
    subst this
    refine G.nil_slice 3 encI 1 ?_
    repeat (first | refine g_endt ?_ | refine g_end ?_ | refine g_then ?_ | refine g_in_normal ?_ | refine g_then_ret ?_ | refine g_in_ret ?_ | refine g_then_exit ?_ | refine g_in_exit rfl ?_ | refine g_in_exit_ne (by decide) ?_ | refine g_seq ?_ | refine g_region ?_ | refine g_block ?_ | refine g_ret ?_ | refine g_return_n ?_ | refine g_exit ?_ | refine g_skip ?_)
    exact ret1 (K := osl 3 encI 1 none 0 [] :: Ks) rfl (resT rfl) ⟨none, 0, rfl, rfl⟩
  first | refine g_seq (g_cond_f rfl (by simp; omega) ?_) | refine g_cond_f rfl (by simp; omega) ?_
  repeat (first | refine g_endt ?_ | refine g_end ?_ | refine g_then ?_ | refine g_in_normal ?_ | refine g_then_ret ?_ | refine g_in_ret ?_ | refine g_then_exit ?_ | refine g_in_exit rfl ?_ | refine g_in_exit_ne (by decide) ?_ | refine g_seq ?_ | refine g_region ?_ | refine g_block ?_ | refine g_ret ?_ | refine g_return_n ?_ | refine g_exit ?_ | refine g_skip ?_)
  refine o_move ?_
  first | refine g_endt ?_ | refine g_end ?_
  repeat (first | refine g_endt ?_ | refine g_end ?_ | refine g_then ?_ | refine g_in_normal ?_ | refine g_then_ret ?_ | refine g_in_ret ?_ | refine g_then_exit ?_ | refine g_in_exit rfl ?_ | refine g_in_exit_ne (by decide) ?_ | refine g_seq ?_ | refine g_region ?_ | refine g_block ?_ | refine g_ret ?_ | refine g_return_n ?_ | refine g_exit ?_ | refine g_skip ?_)
  refine G.norm p #[.slice none 0 0] rfl ?_
  refine newGI p ?_
  refine G.pu_in (q := ([] : List Int).length < n) (by simp; omega) ?_
  refine g_range (ps := [14]) (enc := encVI) (xs := xs) rfl (fun pre => pu (pre.length < n) :: GrowI p pre :: cellsB bn #[.int .i64 (n : Int)] 3 :: Ks) (fun c pre => pu (c = .exit 0 ∧ pre.length = n) :: GrowI p pre :: Ks) (fun K => hit [K, pu (0 < n), GrowI p [], cellsB bn #[.int .i64 (n : Int)] 3]) (fun _ => rfl) ?_ ?_ ?_
  · intro w0 F l r pre x hp
    have hlen : pre.length < xs.length := by
      obtain ⟨t, ht⟩ := hp
      have := congrArg List.length ht
      simp at this
      omega
    refine G.pu fun hpn => ?_
    refine openGI p pre fun S e => ?_
    repeat (first | refine g_endt ?_ | refine g_end ?_ | refine g_then ?_ | refine g_in_normal ?_ | refine g_then_ret ?_ | refine g_in_ret ?_ | refine g_then_exit ?_ | refine g_in_exit rfl ?_ | refine g_in_exit_ne (by decide) ?_ | refine g_seq ?_ | refine g_region ?_ | refine g_block ?_ | refine g_ret ?_ | refine g_return_n ?_ | refine g_exit ?_ | refine g_skip ?_)
    refine o_assign ?_
    first | refine g_endt ?_ | refine g_end ?_
    repeat (first | refine g_endt ?_ | refine g_end ?_ | refine g_then ?_ | refine g_in_normal ?_ | refine g_then_ret ?_ | refine g_in_ret ?_ | refine g_then_exit ?_ | refine g_in_exit rfl ?_ | refine g_in_exit_ne (by decide) ?_ | refine g_seq ?_ | refine g_region ?_ | refine g_block ?_ | refine g_ret ?_ | refine g_return_n ?_ | refine g_exit ?_ | refine g_skip ?_)
    refine g_begin ?_
    repeat (first | refine g_endt ?_ | refine g_end ?_ | refine g_then ?_ | refine g_in_normal ?_ | refine g_then_ret ?_ | refine g_in_ret ?_ | refine g_then_exit ?_ | refine g_in_exit rfl ?_ | refine g_in_exit_ne (by decide) ?_ | refine g_seq ?_ | refine g_region ?_ | refine g_block ?_ | refine g_ret ?_ | refine g_return_n ?_ | refine g_exit ?_ | refine g_skip ?_)
    first | refine o_load1 rfl rfl ?_ | refine o_loadE0 rfl (by assumption) rfl ?_ | refine o_loadE1 rfl (by assumption) rfl ?_
    refine o_move ?_
    refine o_litP (e := 3) encI [x] (valI x).cells (fun w => by kernel_rfl) (rfl) (by simp [maxLen]) fun _ => ?_
    refine o_append (xs := pre) (ys := [x]) (by first | rfl | (simp only [List.length_map, List.length_take, List.length_append]; first | rfl | (congr 1; omega))) rfl rfl rfl rfl (fun _ => .inr trivial) (by simp [maxLen]; omega) (by simp; omega) fun S2 e2 => ?_
    refine o_store (v := .slice S2 (pre.length + 1) e2) rfl rfl rfl rfl rfl ?_
    first | refine g_endt ?_ | refine g_end ?_
    refine G.norm p #[.slice S2 (pre.length + 1) e2] rfl ?_
    repeat (first | refine g_endt ?_ | refine g_end ?_ | refine g_then ?_ | refine g_in_normal ?_ | refine g_then_ret ?_ | refine g_in_ret ?_ | refine g_then_exit ?_ | refine g_in_exit rfl ?_ | refine g_in_exit_ne (by decide) ?_ | refine g_seq ?_ | refine g_region ?_ | refine g_block ?_ | refine g_ret ?_ | refine g_return_n ?_ | refine g_exit ?_ | refine g_skip ?_)
    first | refine o_load1 rfl rfl ?_ | refine o_loadE0 rfl (by assumption) rfl ?_ | refine o_loadE1 rfl (by assumption) rfl ?_
    refine o_len rfl rfl ?_
    first | refine o_load1 rfl rfl ?_ | refine o_loadE0 rfl (by assumption) rfl ?_ | refine o_loadE1 rfl (by assumption) rfl ?_
    refine o_geq rfl rfl ?_
    first | refine g_endt ?_ | refine g_end ?_
    by_cases h1 : pre.length + 1 < n
    · first | refine g_seq (g_cond_f rfl (by simp; omega) ?_) | refine g_cond_f rfl (by simp; omega) ?_
      refine shutGI p (pre ++ [x]) S2 e2 (n := pre.length + 1) (by simp) ?_
      refine G.pu_in (q := (pre ++ [x]).length < n) (by simp; omega) ?_
      repeat (first | refine g_endt ?_ | refine g_end ?_ | refine g_then ?_ | refine g_in_normal ?_ | refine g_then_ret ?_ | refine g_in_ret ?_ | refine g_then_exit ?_ | refine g_in_exit rfl ?_ | refine g_in_exit_ne (by decide) ?_ | refine g_seq ?_ | refine g_region ?_ | refine g_block ?_ | refine g_ret ?_ | refine g_return_n ?_ | refine g_exit ?_ | refine g_skip ?_)
      exact g_next
    · first | refine g_seq (g_cond_t rfl (by simp; omega) ?_) | refine g_cond_t rfl (by simp; omega) ?_
      refine shutGI p (pre ++ [x]) S2 e2 (n := pre.length + 1) (by simp) ?_
      refine G.pu_in (q := Code.exit 0 = Code.exit 0 ∧ (pre ++ [x]).length = n) ⟨rfl, by simp; omega⟩ ?_
      repeat (first | refine g_endt ?_ | refine g_end ?_ | refine g_then ?_ | refine g_in_normal ?_ | refine g_then_ret ?_ | refine g_in_ret ?_ | refine g_then_exit ?_ | refine g_in_exit rfl ?_ | refine g_in_exit_ne (by decide) ?_ | refine g_seq ?_ | refine g_region ?_ | refine g_block ?_ | refine g_ret ?_ | refine g_return_n ?_ | refine g_exit ?_ | refine g_skip ?_)
      exact g_leave_exit
  · intro D
    refine G.pu fun h => ?_
    omega
  · intro D c pre hp
    refine G.pu fun ⟨h1, h2⟩ => ?_
    subst h1
    have e1 : xs.take n = pre := by
      obtain ⟨t, ht⟩ := hp
      rw [← ht, ← h2, List.take_left]
    rw [e1]
    refine openGI p pre fun S e => ?_
    repeat (first | refine g_endt ?_ | refine g_end ?_ | refine g_then ?_ | refine g_in_normal ?_ | refine g_then_ret ?_ | refine g_in_ret ?_ | refine g_then_exit ?_ | refine g_in_exit rfl ?_ | refine g_in_exit_ne (by decide) ?_ | refine g_seq ?_ | refine g_region ?_ | refine g_block ?_ | refine g_ret ?_ | refine g_return_n ?_ | refine g_exit ?_ | refine g_skip ?_)
    repeat (first | refine g_endt ?_ | refine g_end ?_ | refine g_then ?_ | refine g_in_normal ?_ | refine g_then_ret ?_ | refine g_in_ret ?_ | refine g_then_exit ?_ | refine g_in_exit rfl ?_ | refine g_in_exit_ne (by decide) ?_ | refine g_seq ?_ | refine g_region ?_ | refine g_block ?_ | refine g_ret ?_ | refine g_return_n ?_ | refine g_exit ?_ | refine g_skip ?_)
    first | refine o_load1 rfl rfl ?_ | refine o_loadE0 rfl (by assumption) rfl ?_ | refine o_loadE1 rfl (by assumption) rfl ?_
    refine o_assign ?_
    first | refine g_endt ?_ | refine g_end ?_
    repeat (first | refine g_endt ?_ | refine g_end ?_ | refine g_then ?_ | refine g_in_normal ?_ | refine g_then_ret ?_ | refine g_in_ret ?_ | refine g_then_exit ?_ | refine g_in_exit rfl ?_ | refine g_in_exit_ne (by decide) ?_ | refine g_seq ?_ | refine g_region ?_ | refine g_block ?_ | refine g_ret ?_ | refine g_return_n ?_ | refine g_exit ?_ | refine g_skip ?_)
    exact ret1 (K := osl 3 encI 1 S e pre :: Ks) rfl (resT rfl) ⟨S, e, (by congr 1 : Value.slice S pre.length e = Value.slice S n e), rfl⟩
end Go.Proofs.Yteokgobeafnpoaa
/- Numbers within bounds. -/
namespace Go.Proofs.Yteokgobeafnpoaa
open Go Go.Sl
attribute [local irreducible] Code.wpIn roundPost bodyPostM runL Ret Meets Begin

theorem within_tmod (a : Int) (n : Nat) (hn : 0 < n) : (if a.tmod n < 0 then a.tmod n + n else a.tmod n) = ((a % (n : Int)).toNat : Int) ∧ -(n : Int) < a.tmod n ∧ a.tmod n < n := by
  have h0 : 0 ≤ a % (n : Int) := Int.emod_nonneg _ (by omega)
  have h1 : a % (n : Int) < n := Int.emod_lt_of_pos _ (by omega)
  rw [Int.toNat_of_nonneg h0, Int.tmod_eq_emod]
  by_cases hc : 0 ≤ a ∨ (n : Int) ∣ a
  · rw [if_pos hc]
    exact ⟨by rw [if_neg (by omega)]; omega, by omega, by omega⟩
  · rw [if_neg hc]
    simp only [Int.natAbs_natCast]
    have h3 : a % (n : Int) ≠ 0 := fun e => hc (.inr (Int.dvd_of_emod_eq_zero e))
    exact ⟨by rw [if_pos (by omega)]; omega, by omega, by omega⟩
theorem Within_spec (a : Int) (n : Nat) (hn : 0 < n) (hn2 : n ≤ 1000000000) : Ctr Try.prog 12 [.int .i64 a, .int .i64 (n : Int)] [] (fun v M => v = .int .i64 ((a % (n : Int)).toNat : Int) ∧ M = []) := by
  obtain ⟨h1, h2, h3⟩ := within_tmod a n hn
  refine spec_of Try.func12 rfl Try.ntmps12 rfl fun w0 F => ?_
  -- ponder/ponderkeep.Within
  repeat (first | refine g_endt ?_ | refine g_end ?_ | refine g_then ?_ | refine g_in_normal ?_ | refine g_then_ret ?_ | refine g_in_ret ?_ | refine g_then_exit ?_ | refine g_in_exit rfl ?_ | refine g_in_exit_ne (by decide) ?_ | refine g_seq ?_ | refine g_region ?_ | refine g_block ?_ | refine g_ret ?_ | refine g_return_n ?_ | refine g_exit ?_ | refine g_skip ?_)
  refine o_assign ?_
  first | refine g_endt ?_ | refine g_end ?_
  repeat (first | refine g_endt ?_ | refine g_end ?_ | refine g_then ?_ | refine g_in_normal ?_ | refine g_then_ret ?_ | refine g_in_ret ?_ | refine g_then_exit ?_ | refine g_in_exit rfl ?_ | refine g_in_exit_ne (by decide) ?_ | refine g_seq ?_ | refine g_region ?_ | refine g_block ?_ | refine g_ret ?_ | refine g_return_n ?_ | refine g_exit ?_ | refine g_skip ?_)
  refine o_move ?_
  refine o_lss rfl rfl ?_
  first | refine g_endt ?_ | refine g_end ?_
  first | refine g_seq (g_cond_f rfl (by simp; omega) ?_) | refine g_cond_f rfl (by simp; omega) ?_
  repeat (first | refine g_endt ?_ | refine g_end ?_ | refine g_then ?_ | refine g_in_normal ?_ | refine g_then_ret ?_ | refine g_in_ret ?_ | refine g_then_exit ?_ | refine g_in_exit rfl ?_ | refine g_in_exit_ne (by decide) ?_ | refine g_seq ?_ | refine g_region ?_ | refine g_block ?_ | refine g_ret ?_ | refine g_return_n ?_ | refine g_exit ?_ | refine g_skip ?_)
  refine o_move ?_
  refine o_move ?_
  refine o_rem rfl rfl (by omega) ?_
  refine o_assign ?_
  first | refine g_endt ?_ | refine g_end ?_
  generalize a.tmod n = t at h1 h2 h3 ⊢
  repeat (first | refine g_endt ?_ | refine g_end ?_ | refine g_then ?_ | refine g_in_normal ?_ | refine g_then_ret ?_ | refine g_in_ret ?_ | refine g_then_exit ?_ | refine g_in_exit rfl ?_ | refine g_in_exit_ne (by decide) ?_ | refine g_seq ?_ | refine g_region ?_ | refine g_block ?_ | refine g_ret ?_ | refine g_return_n ?_ | refine g_exit ?_ | refine g_skip ?_)
  refine o_move ?_
  refine o_lss rfl rfl ?_
  first | refine g_endt ?_ | refine g_end ?_
  by_cases h : t < 0
  · first | refine g_seq (g_cond_t rfl (by simpa using h) ?_) | refine g_cond_t rfl (by simpa using h) ?_
    rw [if_pos h] at h1
    repeat (first | refine g_endt ?_ | refine g_end ?_ | refine g_then ?_ | refine g_in_normal ?_ | refine g_then_ret ?_ | refine g_in_ret ?_ | refine g_then_exit ?_ | refine g_in_exit rfl ?_ | refine g_in_exit_ne (by decide) ?_ | refine g_seq ?_ | refine g_region ?_ | refine g_block ?_ | refine g_ret ?_ | refine g_return_n ?_ | refine g_exit ?_ | refine g_skip ?_)
    refine o_move ?_
    refine o_move ?_
    refine o_add (c := ((a % (n : Int)).toNat : Int)) rfl rfl h1 (by omega) (by omega) ?_
    refine o_assign ?_
    first | refine g_endt ?_ | refine g_end ?_
    repeat (first | refine g_endt ?_ | refine g_end ?_ | refine g_then ?_ | refine g_in_normal ?_ | refine g_then_ret ?_ | refine g_in_ret ?_ | refine g_then_exit ?_ | refine g_in_exit rfl ?_ | refine g_in_exit_ne (by decide) ?_ | refine g_seq ?_ | refine g_region ?_ | refine g_block ?_ | refine g_ret ?_ | refine g_return_n ?_ | refine g_exit ?_ | refine g_skip ?_)
    refine o_move ?_
    refine o_assign ?_
    first | refine g_endt ?_ | refine g_end ?_
    repeat (first | refine g_endt ?_ | refine g_end ?_ | refine g_then ?_ | refine g_in_normal ?_ | refine g_then_ret ?_ | refine g_in_ret ?_ | refine g_then_exit ?_ | refine g_in_exit rfl ?_ | refine g_in_exit_ne (by decide) ?_ | refine g_seq ?_ | refine g_region ?_ | refine g_block ?_ | refine g_ret ?_ | refine g_return_n ?_ | refine g_exit ?_ | refine g_skip ?_)
    exact ret1 rfl (resT rfl) ⟨rfl, rfl⟩
  · first | refine g_seq (g_cond_f rfl (by simpa using h) ?_) | refine g_cond_f rfl (by simpa using h) ?_
    rw [if_neg h] at h1
    repeat (first | refine g_endt ?_ | refine g_end ?_ | refine g_then ?_ | refine g_in_normal ?_ | refine g_then_ret ?_ | refine g_in_ret ?_ | refine g_then_exit ?_ | refine g_in_exit rfl ?_ | refine g_in_exit_ne (by decide) ?_ | refine g_seq ?_ | refine g_region ?_ | refine g_block ?_ | refine g_ret ?_ | refine g_return_n ?_ | refine g_exit ?_ | refine g_skip ?_)
    refine o_move ?_
    refine o_assign ?_
    first | refine g_endt ?_ | refine g_end ?_
    repeat (first | refine g_endt ?_ | refine g_end ?_ | refine g_then ?_ | refine g_in_normal ?_ | refine g_then_ret ?_ | refine g_in_ret ?_ | refine g_then_exit ?_ | refine g_in_exit rfl ?_ | refine g_in_exit_ne (by decide) ?_ | refine g_seq ?_ | refine g_region ?_ | refine g_block ?_ | refine g_ret ?_ | refine g_return_n ?_ | refine g_exit ?_ | refine g_skip ?_)
    rw [h1]
    exact ret1 rfl (resT rfl) ⟨rfl, rfl⟩
end Go.Proofs.Yteokgobeafnpoaa
/- Lists of numbers held against lists that read the same. -/
namespace Go.Proofs.Yteokgobeafnpoaa
open Go Go.Sl
attribute [local irreducible] Code.wpIn roundPost bodyPostM runL Ret Meets Begin

theorem Ints_spec (A B : Option Addr) (len cap cap' : Nat) (ys : List Int) (hl : ys.length = len) (hm : len ≤ 9223372036854775807) : Ctr Try.prog 19 [.slice A len cap, .slice B len cap'] [psl encI 1 A ys, psl encI 1 B ys]
    (fun v M => v = .bool true ∧ M = []) := by
  refine spec_of Try.func19 rfl Try.ntmps19 rfl fun w0 F => ?_
  repeat (first | refine g_endt ?_ | refine g_end ?_ | refine g_then ?_ | refine g_in_normal ?_ | refine g_then_ret ?_ | refine g_in_ret ?_ | refine g_then_exit ?_ | refine g_in_exit rfl ?_ | refine g_in_exit_ne (by decide) ?_ | refine g_seq ?_ | refine g_region ?_ | refine g_block ?_ | refine g_ret ?_ | refine g_return_n ?_ | refine g_exit ?_ | refine g_skip ?_)
  refine o_assign ?_
  first | refine g_endt ?_ | refine g_end ?_
  repeat (first | refine g_endt ?_ | refine g_end ?_ | refine g_then ?_ | refine g_in_normal ?_ | refine g_then_ret ?_ | refine g_in_ret ?_ | refine g_then_exit ?_ | refine g_in_exit rfl ?_ | refine g_in_exit_ne (by decide) ?_ | refine g_seq ?_ | refine g_region ?_ | refine g_block ?_ | refine g_ret ?_ | refine g_return_n ?_ | refine g_exit ?_ | refine g_skip ?_)
  refine o_move ?_
  refine o_len rfl rfl ?_
  refine o_move ?_
  refine o_len rfl rfl ?_
  refine o_neq rfl rfl ?_
  first | refine g_endt ?_ | refine g_end ?_
  first | refine g_seq (g_cond_f rfl (by simp) ?_) | refine g_cond_f rfl (by simp) ?_
  repeat (first | refine g_endt ?_ | refine g_end ?_ | refine g_then ?_ | refine g_in_normal ?_ | refine g_then_ret ?_ | refine g_in_ret ?_ | refine g_then_exit ?_ | refine g_in_exit rfl ?_ | refine g_in_exit_ne (by decide) ?_ | refine g_seq ?_ | refine g_region ?_ | refine g_block ?_ | refine g_ret ?_ | refine g_return_n ?_ | refine g_exit ?_ | refine g_skip ?_)
  refine o_assign ?_
  first | refine g_endt ?_ | refine g_end ?_
  repeat (first | refine g_endt ?_ | refine g_end ?_ | refine g_then ?_ | refine g_in_normal ?_ | refine g_then_ret ?_ | refine g_in_ret ?_ | refine g_then_exit ?_ | refine g_in_exit rfl ?_ | refine g_in_exit_ne (by decide) ?_ | refine g_seq ?_ | refine g_region ?_ | refine g_block ?_ | refine g_ret ?_ | refine g_return_n ?_ | refine g_exit ?_ | refine g_skip ?_)
  refine g_loop (σ := {i : Nat // i ≤ ys.length}) (S := fun i => [(0, .slice A len cap), (1, .slice B len cap'), (5, .int .i64 ((i.1 : Nat) : Int))])
    (H := fun i => [psl encI 1 A ys, psl encI 1 B ys]) (μ := fun i => ys.length - i.1) (s0 := ⟨0, Nat.zero_le _⟩) (Sat.mem ⟨rfl, rfl, rfl, trivial⟩) ?_
  rintro ⟨i, hi⟩ ρ'
  dsimp only
  repeat (first | refine g_endt ?_ | refine g_end ?_ | refine g_then ?_ | refine g_in_normal ?_ | refine g_then_ret ?_ | refine g_in_ret ?_ | refine g_then_exit ?_ | refine g_in_exit rfl ?_ | refine g_in_exit_ne (by decide) ?_ | refine g_seq ?_ | refine g_region ?_ | refine g_block ?_ | refine g_ret ?_ | refine g_return_n ?_ | refine g_exit ?_ | refine g_skip ?_)
  refine o_move ?_
  refine o_move ?_
  refine o_len rfl rfl ?_
  refine o_lss rfl rfl ?_
  first | refine g_endt ?_ | refine g_end ?_
  by_cases h : i < len
  · first | refine g_seq (g_cond_t rfl (by simpa using h) ?_) | refine g_cond_t rfl (by simpa using h) ?_
    have hi' : i < ys.length := by omega
    have hz : ys[i]? = some ys[i] := List.getElem?_eq_getElem hi'
    repeat (first | refine g_endt ?_ | refine g_end ?_ | refine g_then ?_ | refine g_in_normal ?_ | refine g_then_ret ?_ | refine g_in_ret ?_ | refine g_then_exit ?_ | refine g_in_exit rfl ?_ | refine g_in_exit_ne (by decide) ?_ | refine g_seq ?_ | refine g_region ?_ | refine g_block ?_ | refine g_ret ?_ | refine g_return_n ?_ | refine g_exit ?_ | refine g_skip ?_)
    refine g_draw [] [0,1,2,3,4,5,6,7,8] [psl encI 1 A ys, psl encI 1 B ys] mixed rfl ?_
    refine ob_q rfl rfl ⟨_, fun X Q h => o_move (g_end (h _ _ ⟨rfl, rfl⟩)), ?_⟩
    refine ob_q rfl rfl ⟨_, fun X Q h => o_move (g_end (h _ _ ⟨rfl, rfl⟩)), ?_⟩
    refine ob_q rfl rfl ⟨_, fun X Q h => o_indexR (ys := ys) rfl rfl rfl hi' hl rfl (g_end (h _ _ ⟨rfl, rfl⟩)), ?_⟩
    refine ob_q rfl rfl ⟨_, fun X Q h => o_loadE0 (ys := ys) (v := .int .i64 ys[i]) rfl hz rfl (g_end (h _ _ ⟨rfl, rfl⟩)), ?_⟩
    refine ob_q rfl rfl ⟨_, fun X Q h => o_move (g_end (h _ _ ⟨rfl, rfl⟩)), ?_⟩
    refine ob_q rfl rfl ⟨_, fun X Q h => o_move (g_end (h _ _ ⟨rfl, rfl⟩)), ?_⟩
    refine ob_q rfl rfl ⟨_, fun X Q h => o_indexR (ys := ys) rfl rfl rfl hi' hl rfl (g_end (h _ _ ⟨rfl, rfl⟩)), ?_⟩
    refine ob_q rfl rfl ⟨_, fun X Q h => o_loadE0 (ys := ys) (v := .int .i64 ys[i]) rfl hz rfl (g_end (h _ _ ⟨rfl, rfl⟩)), ?_⟩
    refine ob_q rfl rfl ⟨_, fun X Q h => o_neq rfl rfl (g_end (h _ _ ⟨rfl, rfl⟩)), ?_⟩
    refine ob_nil ?_
    first | refine g_seq (g_cond_f rfl (by simp) ?_) | refine g_cond_f rfl (by simp) ?_
    repeat (first | refine g_endt ?_ | refine g_end ?_ | refine g_then ?_ | refine g_in_normal ?_ | refine g_then_ret ?_ | refine g_in_ret ?_ | refine g_then_exit ?_ | refine g_in_exit rfl ?_ | refine g_in_exit_ne (by decide) ?_ | refine g_seq ?_ | refine g_region ?_ | refine g_block ?_ | refine g_ret ?_ | refine g_return_n ?_ | refine g_exit ?_ | refine g_skip ?_)
    refine o_move ?_
    refine o_add rfl rfl rfl (by omega) (by omega) ?_
    refine o_assign ?_
    first | refine g_endt ?_ | refine g_end ?_
    repeat (first | refine g_endt ?_ | refine g_end ?_ | refine g_then ?_ | refine g_in_normal ?_ | refine g_then_ret ?_ | refine g_in_ret ?_ | refine g_then_exit ?_ | refine g_in_exit rfl ?_ | refine g_in_exit_ne (by decide) ?_ | refine g_seq ?_ | refine g_region ?_ | refine g_block ?_ | refine g_ret ?_ | refine g_return_n ?_ | refine g_exit ?_ | refine g_skip ?_)
    exact g_meets ⟨i + 1, hi'⟩ (by show ys.length - (i + 1) < ys.length - i; omega) (Sat.mem ⟨rfl, rfl, rfl, trivial⟩)
  · first | refine g_seq (g_cond_f rfl (by simpa using h) ?_) | refine g_cond_f rfl (by simpa using h) ?_
    repeat (first | refine g_endt ?_ | refine g_end ?_ | refine g_then ?_ | refine g_in_normal ?_ | refine g_then_ret ?_ | refine g_in_ret ?_ | refine g_then_exit ?_ | refine g_in_exit rfl ?_ | refine g_in_exit_ne (by decide) ?_ | refine g_seq ?_ | refine g_region ?_ | refine g_block ?_ | refine g_ret ?_ | refine g_return_n ?_ | refine g_exit ?_ | refine g_skip ?_)
    refine o_assign ?_
    first | refine g_endt ?_ | refine g_end ?_
    repeat (first | refine g_endt ?_ | refine g_end ?_ | refine g_then ?_ | refine g_in_normal ?_ | refine g_then_ret ?_ | refine g_in_ret ?_ | refine g_then_exit ?_ | refine g_in_exit rfl ?_ | refine g_in_exit_ne (by decide) ?_ | refine g_seq ?_ | refine g_region ?_ | refine g_block ?_ | refine g_ret ?_ | refine g_return_n ?_ | refine g_exit ?_ | refine g_skip ?_)
    exact ret1 rfl (resT rfl) ⟨rfl, rfl⟩
end Go.Proofs.Yteokgobeafnpoaa
/- What a goal depends on, told again and left early: the walk. -/
namespace Go.Proofs.Yteokgobeafnpoaa
open Go Go.Sl
attribute [local irreducible] Exit.then Exit.inBlock Code.wpIn roundPost bodyPostM runL Ret Meets MeetsD Begin

theorem WithinQ_spec (a : Int) (n : Nat) (hn : 0 < n) (hn2 : n ≤ 1000000000) {k : Nat} (h : (a % (n : Int)).toNat = k) : Ctr Try.prog 12 [.int .i64 a, .int .i64 (n : Int)] [] (fun v M => v = .int .i64 (k : Int) ∧ M = []) := by
  rw [← h]; exact Within_spec a n hn hn2
theorem within_lt (a : Int) (n : Nat) (hn : 0 < n) : (a % (n : Int)).toNat < n := by
  have h0 : 0 ≤ a % (n : Int) := Int.emod_nonneg _ (by omega)
  have h1 : a % (n : Int) < n := Int.emod_lt_of_pos _ (by omega)
  omega
abbrev daK (A : Option Addr) (ys : List DaD) : List SProp := [psl encDA 3 A ys, prowsG encI 1 (ys.map DaD.r)]
theorem tags_len {ys : List DaD} (hr : ∀ q ∈ ys, q.r.zs.length = q.r.len ∧ q.r.len ≤ 9223372036854775807) (h30 : ∀ q ∈ ys, q.r.len ≤ 30) : ∀ q ∈ ys, q.tags.length ≤ 30 := fun q hq => by
  unfold DaD.tags; rw [List.length_map, (hr q hq).1]; exact h30 q hq
theorem num_rise {l : List NumD} (hs : Srt NumD.cmp l) {i : Nat} {x y : Int} (h1 : 0 < i) (hx : (l.map NumD.n)[i - 1]? = some x) (hy : (l.map NumD.n)[i]? = some y) : x < y := by
  rw [List.getElem?_map] at hx hy
  obtain ⟨a, ha, rfl⟩ := Option.map_eq_some_iff.1 hx
  obtain ⟨b, hb, rfl⟩ := Option.map_eq_some_iff.1 hy
  exact cmpN_lt.1 (hs (i - 1) i a b (by omega) ha hb)
set_option maxHeartbeats 2000000 in
theorem DepsLeft_spec (A : Option Addr) (n c : Nat) (ys : List DaD) (hl : ys.length = n) (hm : n ≤ 9223372036854775807) (hr : ∀ q ∈ ys, q.r.zs.length = q.r.len ∧ q.r.len ≤ 9223372036854775807) (lv n0 : Int) :
    Ctr Try.prog 4 [.slice A n c, .int .i64 lv, .int .i64 n0] (daK A ys) (fun v M => v = .bool true ∧ M = []) := by
  refine spec_of Try.func4 rfl Try.ntmps4 rfl fun w0 F => ?_
  -- hide
  -- ponder/ponderlaw20.DepsLeft
  repeat (first | refine g_endt ?_ | refine g_end ?_ | refine g_then ?_ | refine g_in_normal ?_ | refine g_then_ret ?_ | refine g_in_ret ?_ | refine g_then_exit ?_ | refine g_in_exit rfl ?_ | refine g_in_exit_ne (by decide) ?_ | refine g_seq ?_ | refine g_region ?_ | refine g_block ?_ | refine g_ret ?_ | refine g_return_n ?_ | refine g_exit ?_ | refine g_skip ?_)
  refine g_hideR fun Q_ hQ_ => ?_
  refine o_assign ?_
  refine g_end (G.imp (hQ_ .normal _) ?_)
  clear hQ_ Q_
  try refine g_then ?_
  repeat (first | refine g_endt ?_ | refine g_end ?_ | refine g_then ?_ | refine g_in_normal ?_ | refine g_then_ret ?_ | refine g_in_ret ?_ | refine g_then_exit ?_ | refine g_in_exit rfl ?_ | refine g_in_exit_ne (by decide) ?_ | refine g_seq ?_ | refine g_region ?_ | refine g_block ?_ | refine g_ret ?_ | refine g_return_n ?_ | refine g_exit ?_ | refine g_skip ?_)
  refine g_hideR fun Q_ hQ_ => ?_
  refine o_call (NewDp_spec) rfl rfl ?_
  rintro _ _ ⟨d, rfl, rfl⟩
  refine o_assign ?_
  refine g_end (G.imp (hQ_ .normal _) ?_)
  clear hQ_ Q_
  try refine g_then ?_
  repeat (first | refine g_endt ?_ | refine g_end ?_ | refine g_then ?_ | refine g_in_normal ?_ | refine g_then_ret ?_ | refine g_in_ret ?_ | refine g_then_exit ?_ | refine g_in_exit rfl ?_ | refine g_in_exit_ne (by decide) ?_ | refine g_seq ?_ | refine g_region ?_ | refine g_block ?_ | refine g_ret ?_ | refine g_return_n ?_ | refine g_exit ?_ | refine g_skip ?_)
  refine g_hideR fun Q_ hQ_ => ?_
  refine o_move ?_
  refine o_peql rfl ?_
  refine g_end (G.imp (hQ_ .normal _) ?_)
  clear hQ_ Q_
  try refine g_then ?_
  first | refine g_seq (g_cond_f rfl (by first | rfl | (simp; done) | (simp; omega) | (simp; assumption)) ?_) | refine g_cond_f rfl (by first | rfl | (simp; done) | (simp; omega) | (simp; assumption)) ?_
  obtain ⟨hv, hhv⟩ : ∃ b, heavyD ys = b := ⟨_, rfl⟩
  repeat (first | refine g_endt ?_ | refine g_end ?_ | refine g_then ?_ | refine g_in_normal ?_ | refine g_then_ret ?_ | refine g_in_ret ?_ | refine g_then_exit ?_ | refine g_in_exit rfl ?_ | refine g_in_exit_ne (by decide) ?_ | refine g_seq ?_ | refine g_region ?_ | refine g_block ?_ | refine g_ret ?_ | refine g_return_n ?_ | refine g_exit ?_ | refine g_skip ?_)
  refine g_hideR fun Q_ hQ_ => ?_
  refine o_move ?_
  refine o_callp (heavyD_spec A n c ys hl hm hhv) rfl rfl ?_
  rintro _ _ ⟨rfl, rfl⟩
  refine g_end (G.imp (hQ_ .normal _) ?_)
  clear hQ_ Q_
  try refine g_then ?_
  cases hv with
  | true =>
    first | refine g_seq (g_cond_t rfl (by first | rfl | (simp; done) | (simp; omega) | (simp; assumption)) ?_) | refine g_cond_t rfl (by first | rfl | (simp; done) | (simp; omega) | (simp; assumption)) ?_
    repeat (first | refine g_endt ?_ | refine g_end ?_ | refine g_then ?_ | refine g_in_normal ?_ | refine g_then_ret ?_ | refine g_in_ret ?_ | refine g_then_exit ?_ | refine g_in_exit rfl ?_ | refine g_in_exit_ne (by decide) ?_ | refine g_seq ?_ | refine g_region ?_ | refine g_block ?_ | refine g_ret ?_ | refine g_return_n ?_ | refine g_exit ?_ | refine g_skip ?_)
    refine g_hideR fun Q_ hQ_ => ?_
    refine o_call (wakes20_spec) rfl rfl ?_
    rintro _ _ ⟨rfl, rfl⟩
    refine o_assign ?_
    refine g_end (G.imp (hQ_ .normal _) ?_)
    clear hQ_ Q_
    try refine g_then ?_
    repeat (first | refine g_endt ?_ | refine g_end ?_ | refine g_then ?_ | refine g_in_normal ?_ | refine g_then_ret ?_ | refine g_in_ret ?_ | refine g_then_exit ?_ | refine g_in_exit rfl ?_ | refine g_in_exit_ne (by decide) ?_ | refine g_seq ?_ | refine g_region ?_ | refine g_block ?_ | refine g_ret ?_ | refine g_return_n ?_ | refine g_exit ?_ | refine g_skip ?_)
    exact ret1 (K := []) rfl (resT (v := .bool true) rfl) ⟨rfl, rfl⟩
  | false =>
    obtain ⟨h60, h30⟩ := heavy_no hhv
    have htl := tags_len hr h30
    first | refine g_seq (g_cond_f rfl (by first | rfl | (simp; done) | (simp; omega) | (simp; assumption)) ?_) | refine g_cond_f rfl (by first | rfl | (simp; done) | (simp; omega) | (simp; assumption)) ?_
    repeat (first | refine g_endt ?_ | refine g_end ?_ | refine g_then ?_ | refine g_in_normal ?_ | refine g_then_ret ?_ | refine g_in_ret ?_ | refine g_then_exit ?_ | refine g_in_exit rfl ?_ | refine g_in_exit_ne (by decide) ?_ | refine g_seq ?_ | refine g_region ?_ | refine g_block ?_ | refine g_ret ?_ | refine g_return_n ?_ | refine g_exit ?_ | refine g_skip ?_)
    refine g_hideR fun Q_ hQ_ => ?_
    refine o_assign ?_
    refine g_end (G.imp (hQ_ .normal _) ?_)
    clear hQ_ Q_
    try refine g_then ?_
    repeat (first | refine g_endt ?_ | refine g_end ?_ | refine g_then ?_ | refine g_in_normal ?_ | refine g_then_ret ?_ | refine g_in_ret ?_ | refine g_then_exit ?_ | refine g_in_exit rfl ?_ | refine g_in_exit_ne (by decide) ?_ | refine g_seq ?_ | refine g_region ?_ | refine g_block ?_ | refine g_ret ?_ | refine g_return_n ?_ | refine g_exit ?_ | refine g_skip ?_)
    refine g_loop (σ := {i : Nat // i ≤ n}) (S := fun i => [(0, .slice A n c), (1, .int .i64 lv), (2, .int .i64 n0), (7, .pointer (some ⟨d, 0, none⟩)), (8, .int .i64 (i.1 : Int))]) (H := fun i => DepP d (allD (ys.take i.1)) :: daK A ys) (μ := fun i => n - i.1) (s0 := ⟨0, Nat.zero_le _⟩) (Sat.mem ⟨rfl, rfl, rfl, rfl, rfl, trivial⟩) (t := (inferInstance : Take _ (DepP d dp0 :: daK A ys) _)) ?_
    rintro ⟨i, hi⟩ ρ'
    dsimp only at hi ⊢
    repeat (first | refine g_endt ?_ | refine g_end ?_ | refine g_then ?_ | refine g_in_normal ?_ | refine g_then_ret ?_ | refine g_in_ret ?_ | refine g_then_exit ?_ | refine g_in_exit rfl ?_ | refine g_in_exit_ne (by decide) ?_ | refine g_seq ?_ | refine g_region ?_ | refine g_block ?_ | refine g_ret ?_ | refine g_return_n ?_ | refine g_exit ?_ | refine g_skip ?_)
    refine g_hideR fun Q_ hQ_ => ?_
    refine o_move ?_
    refine o_move ?_
    refine o_len rfl rfl ?_
    refine o_lss rfl rfl ?_
    refine g_end (G.imp (hQ_ .normal _) ?_)
    clear hQ_ Q_
    try refine g_then ?_
    by_cases hin : i < n
    · first | refine g_seq (g_cond_t rfl (by first | rfl | (simp; done) | (simp; omega) | (simp; assumption)) ?_) | refine g_cond_t rfl (by first | rfl | (simp; done) | (simp; omega) | (simp; assumption)) ?_
      obtain ⟨q, hq⟩ : ∃ q, ys[i]? = some q := ⟨_, List.getElem?_eq_getElem (by omega)⟩
      have hqm := List.mem_of_getElem? hq
      obtain ⟨hq1, _⟩ := hr q hqm
      have hq30 := h30 q hqm
      have hok := allD_take_ok (by omega) htl i
      have hT' : addD (allD (ys.take i)) q.n (q.r.zs.map NumD.mk) = allD (ys.take (i + 1)) := (allD_take hq).symm
      generalize allD (ys.take i) = U at hok hT' ⊢
      refine G.rowG (enc := encI) (sz := 1) (rs := ys.map DaD.r) (r := q.r) (List.mem_map.2 ⟨q, hqm, rfl⟩) ?_
      repeat (first | refine g_endt ?_ | refine g_end ?_ | refine g_then ?_ | refine g_in_normal ?_ | refine g_then_ret ?_ | refine g_in_ret ?_ | refine g_then_exit ?_ | refine g_in_exit rfl ?_ | refine g_in_exit_ne (by decide) ?_ | refine g_seq ?_ | refine g_region ?_ | refine g_block ?_ | refine g_ret ?_ | refine g_return_n ?_ | refine g_exit ?_ | refine g_skip ?_)
      refine g_hide fun Q_ hQ_ => ?_
      refine g_draw [11,12] [0,1,2,3,4,5,6,7,8,9,10,11,12] [psl encDA 3 A ys] mixed rfl ?_
      refine ob_q rfl rfl ⟨_, fun X Q h => o_move (g_end (h _ _ ⟨rfl, rfl⟩)), ?_⟩
      refine ob_q rfl rfl ⟨_, fun X Q h => o_move (g_end (h _ _ ⟨rfl, rfl⟩)), ?_⟩
      refine ob_q rfl rfl ⟨_, fun X Q h => o_move (g_end (h _ _ ⟨rfl, rfl⟩)), ?_⟩
      refine ob_q rfl rfl ⟨_, fun X Q h => o_indexR (ys := ys) (i := i) rfl rfl rfl (by omega) hl rfl (g_end (h _ _ ⟨rfl, rfl⟩)), ?_⟩
      refine ob_q rfl rfl ⟨_, fun X Q h => o_fieldR rfl (by omega) (g_end (h _ _ ⟨rfl, rfl⟩)), ?_⟩
      refine ob_q rfl rfl ⟨_, fun X Q h => o_loadE1 (ys := ys) (v := .int .i64 q.n) rfl hq rfl (g_end (h _ _ ⟨rfl, rfl⟩)), ?_⟩
      refine ob_q rfl rfl ⟨_, fun X Q h => o_move (g_end (h _ _ ⟨rfl, rfl⟩)), ?_⟩
      refine ob_q rfl rfl ⟨_, fun X Q h => o_move (g_end (h _ _ ⟨rfl, rfl⟩)), ?_⟩
      refine ob_q rfl rfl ⟨_, fun X Q h => o_indexR (ys := ys) (i := i) rfl rfl rfl (by omega) hl rfl (g_end (h _ _ ⟨rfl, rfl⟩)), ?_⟩
      refine ob_q rfl rfl ⟨_, fun X Q h => o_fieldR rfl (by omega) (g_end (h _ _ ⟨rfl, rfl⟩)), ?_⟩
      refine ob_q rfl rfl ⟨_, fun X Q h => o_loadE1 (ys := ys) (v := .slice q.r.a q.r.len q.r.cap) rfl hq rfl (g_end (h _ _ ⟨rfl, rfl⟩)), ?_⟩
      refine ob_l rfl rfl fun Qz hz => o_call (OfI_spec q.r.a q.r.len q.r.cap) rfl rfl ?_
      rintro _ _ ⟨bo, rfl, rfl⟩
      refine g_end (hz _ _ ⟨_, ob_fin, ?_⟩)
      clear hz Qz
      refine ob_l rfl rfl fun Qz hz => o_call (AddK_spec d U q.n 31 [.pointer (some ⟨bo, 0, none⟩)] q.r.zs (by omega) (fun j => Nat.le_trans (hok.len j) (by decide)) [pblk bo (.cells #[.slice q.r.a q.r.len q.r.cap] 23 (0, 0)), psl encI 1 q.r.a q.r.zs] (fun K => Of1I_iter bo q.r.a q.r.len q.r.cap q.r.zs hq1 (by omega) _) rfl hT') rfl rfl ?_
      rintro _ _ ⟨rfl, rfl⟩
      refine g_end (hz _ _ ⟨_, ob_fin, ?_⟩)
      clear hz Qz
      refine ob_nil ?_
      refine G.imp (hQ_ .normal _) ?_
      clear hQ_ Q_
      try refine g_then ?_
      repeat (first | refine g_endt ?_ | refine g_end ?_ | refine g_then ?_ | refine g_in_normal ?_ | refine g_then_ret ?_ | refine g_in_ret ?_ | refine g_then_exit ?_ | refine g_in_exit rfl ?_ | refine g_in_exit_ne (by decide) ?_ | refine g_seq ?_ | refine g_region ?_ | refine g_block ?_ | refine g_ret ?_ | refine g_return_n ?_ | refine g_exit ?_ | refine g_skip ?_)
      repeat (first | refine g_endt ?_ | refine g_end ?_ | refine g_then ?_ | refine g_in_normal ?_ | refine g_then_ret ?_ | refine g_in_ret ?_ | refine g_then_exit ?_ | refine g_in_exit rfl ?_ | refine g_in_exit_ne (by decide) ?_ | refine g_seq ?_ | refine g_region ?_ | refine g_block ?_ | refine g_ret ?_ | refine g_return_n ?_ | refine g_exit ?_ | refine g_skip ?_)
      refine g_hideR fun Q_ hQ_ => ?_
      refine o_move ?_
      refine o_add (c := ((i + 1 : Nat) : Int)) rfl rfl (by omega) (by omega) (by omega) ?_
      refine o_assign ?_
      refine g_end (G.imp (hQ_ .normal _) ?_)
      clear hQ_ Q_
      try refine g_then ?_
      repeat (first | refine g_endt ?_ | refine g_end ?_ | refine g_then ?_ | refine g_in_normal ?_ | refine g_then_ret ?_ | refine g_in_ret ?_ | refine g_then_exit ?_ | refine g_in_exit rfl ?_ | refine g_in_exit_ne (by decide) ?_ | refine g_seq ?_ | refine g_region ?_ | refine g_block ?_ | refine g_ret ?_ | refine g_return_n ?_ | refine g_exit ?_ | refine g_skip ?_)
      exact g_meets ⟨i + 1, hin⟩ (by show n - (i + 1) < n - i; omega) (Sat.mem ⟨rfl, rfl, rfl, rfl, rfl, trivial⟩)
    · first | refine g_seq (g_cond_f rfl (by simp; omega) ?_) | refine g_cond_f rfl (by simp; omega) ?_
      rw [List.take_of_length_le (by omega)]
      have hok : OkT (allD ys) 1800 := by have := allD_take_ok (by omega) htl n; rwa [List.take_of_length_le (by omega)] at this
      generalize allD ys = T at hok ⊢
      repeat (first | refine g_endt ?_ | refine g_end ?_ | refine g_then ?_ | refine g_in_normal ?_ | refine g_then_ret ?_ | refine g_in_ret ?_ | refine g_then_exit ?_ | refine g_in_exit rfl ?_ | refine g_in_exit_ne (by decide) ?_ | refine g_seq ?_ | refine g_region ?_ | refine g_block ?_ | refine g_ret ?_ | refine g_return_n ?_ | refine g_exit ?_ | refine g_skip ?_)
      refine g_hideR fun Q_ hQ_ => ?_
      refine o_move ?_
      refine o_move ?_
      refine o_call (OfDp_spec d lv) rfl rfl ?_
      rintro _ _ ⟨b1, b2, rfl, rfl⟩
      refine o_assign ?_
      refine g_end (G.imp (hQ_ .normal _) ?_)
      clear hQ_ Q_
      try refine g_then ?_
      repeat (first | refine g_endt ?_ | refine g_end ?_ | refine g_then ?_ | refine g_in_normal ?_ | refine g_then_ret ?_ | refine g_in_ret ?_ | refine g_then_exit ?_ | refine g_in_exit rfl ?_ | refine g_in_exit_ne (by decide) ?_ | refine g_seq ?_ | refine g_region ?_ | refine g_block ?_ | refine g_ret ?_ | refine g_return_n ?_ | refine g_exit ?_ | refine g_skip ?_)
      refine g_hideR fun Q_ hQ_ => ?_
      refine o_move ?_
      refine o_fnil rfl (fun w => by kernel_rfl) (fun w => by kernel_rfl) ?_
      refine g_end (G.imp (hQ_ .normal _) ?_)
      clear hQ_ Q_
      try refine g_then ?_
      first | refine g_seq (g_cond_f rfl (by first | rfl | (simp; done) | (simp; omega) | (simp; assumption)) ?_) | refine g_cond_f rfl (by first | rfl | (simp; done) | (simp; omega) | (simp; assumption)) ?_
      have hit : ∀ K, Iter Try.prog 34 [.pointer (some ⟨b1, 0, none⟩), .pointer (some ⟨b2, 0, none⟩)] encVI ((T lv).map NumD.n) (K ++ [pD b1 d, pK b2 lv, DepP d T]) := fun K => Of1Dp_iter d b1 b2 T lv (fun j => Nat.le_trans (hok.len j) (by decide)) _
      have hlen : ((T lv).map NumD.n).length ≤ 1800 := by rw [List.length_map]; exact hok.len lv
      have hris : ∀ (i : Nat) (x y : Int), 0 < i → ((T lv).map NumD.n)[i - 1]? = some x → ((T lv).map NumD.n)[i]? = some y → x < y := fun i x y h1 hx hy => num_rise (hok.srt lv) h1 hx hy
      generalize (T lv).map NumD.n = xs at hit hlen hris ⊢
      repeat (first | refine g_endt ?_ | refine g_end ?_ | refine g_then ?_ | refine g_in_normal ?_ | refine g_then_ret ?_ | refine g_in_ret ?_ | refine g_then_exit ?_ | refine g_in_exit rfl ?_ | refine g_in_exit_ne (by decide) ?_ | refine g_seq ?_ | refine g_region ?_ | refine g_block ?_ | refine g_ret ?_ | refine g_return_n ?_ | refine g_exit ?_ | refine g_skip ?_)
      refine g_hideR fun Q_ hQ_ => ?_
      refine o_move ?_
      refine o_call (ListI_spec 34 [.pointer (some ⟨b1, 0, none⟩), .pointer (some ⟨b2, 0, none⟩)] xs rfl (by omega) [pD b1 d, pK b2 lv, DepP d T] hit) rfl rfl ?_
      rintro _ _ ⟨S1, e1, rfl, rfl⟩
      refine o_assign ?_
      refine g_end (G.imp (hQ_ .normal _) ?_)
      clear hQ_ Q_
      try refine g_then ?_
      refine G.bring [osl 3 encI 1 S1 e1 xs] ?_
      refine G.frzc fun hroom => ?_
      obtain ⟨k, hk⟩ : ∃ k, (n0 % ((xs.length + 1 : Nat) : Int)).toNat = k := ⟨_, rfl⟩
      have hkl : k < xs.length + 1 := hk ▸ within_lt n0 (xs.length + 1) (by omega)
      repeat (first | refine g_endt ?_ | refine g_end ?_ | refine g_then ?_ | refine g_in_normal ?_ | refine g_then_ret ?_ | refine g_in_ret ?_ | refine g_then_exit ?_ | refine g_in_exit rfl ?_ | refine g_in_exit_ne (by decide) ?_ | refine g_seq ?_ | refine g_region ?_ | refine g_block ?_ | refine g_ret ?_ | refine g_return_n ?_ | refine g_exit ?_ | refine g_skip ?_)
      refine g_hideR fun Q_ hQ_ => ?_
      refine o_move ?_
      refine o_move ?_
      refine o_len rfl rfl ?_
      refine o_add (c := ((xs.length + 1 : Nat) : Int)) rfl rfl (by omega) (by omega) (by omega) ?_
      refine o_call (WithinQ_spec n0 (xs.length + 1) (by omega) (by omega) hk) rfl rfl ?_
      rintro _ _ ⟨rfl, rfl⟩
      refine o_assign ?_
      refine g_end (G.imp (hQ_ .normal _) ?_)
      clear hQ_ Q_
      try refine g_then ?_
      repeat (first | refine g_endt ?_ | refine g_end ?_ | refine g_then ?_ | refine g_in_normal ?_ | refine g_then_ret ?_ | refine g_in_ret ?_ | refine g_then_exit ?_ | refine g_in_exit rfl ?_ | refine g_in_exit_ne (by decide) ?_ | refine g_seq ?_ | refine g_region ?_ | refine g_block ?_ | refine g_ret ?_ | refine g_return_n ?_ | refine g_exit ?_ | refine g_skip ?_)
      refine g_hideR fun Q_ hQ_ => ?_
      refine o_assign ?_
      refine g_end (G.imp (hQ_ .normal _) ?_)
      clear hQ_ Q_
      try refine g_then ?_
      repeat (first | refine g_endt ?_ | refine g_end ?_ | refine g_then ?_ | refine g_in_normal ?_ | refine g_then_ret ?_ | refine g_in_ret ?_ | refine g_then_exit ?_ | refine g_in_exit rfl ?_ | refine g_in_exit_ne (by decide) ?_ | refine g_seq ?_ | refine g_region ?_ | refine g_block ?_ | refine g_ret ?_ | refine g_return_n ?_ | refine g_exit ?_ | refine g_skip ?_)
      refine g_loop (σ := {i : Nat // 1 ≤ i ∧ (i ≤ xs.length ∨ i = 1)}) (S := fun i => [(2, .int .i64 (k : Int)), (9, .func (.func 34) #[] #[.pointer (some ⟨b1, 0, none⟩), .pointer (some ⟨b2, 0, none⟩)]), (10, .slice S1 xs.length e1), (11, .int .i64 (i.1 : Int))]) (H := fun _ => [psl encI 1 S1 xs, pD b1 d, pK b2 lv, DepP d T]) (μ := fun i => xs.length + 1 - i.1) (s0 := ⟨1, by omega, .inr rfl⟩) (Sat.mem ⟨rfl, rfl, rfl, rfl, trivial⟩) ?_
      rintro ⟨i, hi1, hi2⟩ ρ2
      dsimp only at hi1 hi2 ⊢
      repeat (first | refine g_endt ?_ | refine g_end ?_ | refine g_then ?_ | refine g_in_normal ?_ | refine g_then_ret ?_ | refine g_in_ret ?_ | refine g_then_exit ?_ | refine g_in_exit rfl ?_ | refine g_in_exit_ne (by decide) ?_ | refine g_seq ?_ | refine g_region ?_ | refine g_block ?_ | refine g_ret ?_ | refine g_return_n ?_ | refine g_exit ?_ | refine g_skip ?_)
      refine g_hideR fun Q_ hQ_ => ?_
      refine o_move ?_
      refine o_move ?_
      refine o_len rfl rfl ?_
      refine o_lss rfl rfl ?_
      refine g_end (G.imp (hQ_ .normal _) ?_)
      clear hQ_ Q_
      try refine g_then ?_
      by_cases hin : i < xs.length
      · first | refine g_seq (g_cond_t rfl (by first | rfl | (simp; done) | (simp; omega) | (simp; assumption)) ?_) | refine g_cond_t rfl (by first | rfl | (simp; done) | (simp; omega) | (simp; assumption)) ?_
        obtain ⟨x, hx⟩ : ∃ x, xs[i - 1]? = some x := ⟨_, List.getElem?_eq_getElem (by omega)⟩
        obtain ⟨y, hy⟩ : ∃ y, xs[i]? = some y := ⟨_, List.getElem?_eq_getElem (by omega)⟩
        have hxy := hris i x y (by omega) hx hy
        repeat (first | refine g_endt ?_ | refine g_end ?_ | refine g_then ?_ | refine g_in_normal ?_ | refine g_then_ret ?_ | refine g_in_ret ?_ | refine g_then_exit ?_ | refine g_in_exit rfl ?_ | refine g_in_exit_ne (by decide) ?_ | refine g_seq ?_ | refine g_region ?_ | refine g_block ?_ | refine g_ret ?_ | refine g_return_n ?_ | refine g_exit ?_ | refine g_skip ?_)
        refine g_hide fun Q_ hQ_ => ?_
        refine g_draw [] [0,1,2,3,4,5,6,7,8,9] [psl encI 1 S1 xs] mixed rfl ?_
        refine ob_q rfl rfl ⟨_, fun X Q h => o_move (g_end (h _ _ ⟨rfl, rfl⟩)), ?_⟩
        refine ob_q rfl rfl ⟨_, fun X Q h => o_move (g_end (h _ _ ⟨rfl, rfl⟩)), ?_⟩
        refine ob_q rfl rfl ⟨_, fun X Q h => o_indexR (ys := xs) (i := i) rfl rfl rfl hin rfl rfl (g_end (h _ _ ⟨rfl, rfl⟩)), ?_⟩
        refine ob_q rfl rfl ⟨_, fun X Q h => o_loadE0 (ys := xs) (v := .int .i64 y) rfl hy rfl (g_end (h _ _ ⟨rfl, rfl⟩)), ?_⟩
        refine ob_q rfl rfl ⟨_, fun X Q h => o_move (g_end (h _ _ ⟨rfl, rfl⟩)), ?_⟩
        refine ob_q rfl rfl ⟨_, fun X Q h => o_move (g_end (h _ _ ⟨rfl, rfl⟩)), ?_⟩
        refine ob_q rfl rfl ⟨_, fun X Q h => o_sub (c := ((i - 1 : Nat) : Int)) rfl rfl (by omega) (by omega) (by omega) (g_end (h _ _ ⟨rfl, rfl⟩)), ?_⟩
        refine ob_q rfl rfl ⟨_, fun X Q h => o_indexR (ys := xs) (i := i - 1) rfl rfl rfl (by omega) rfl rfl (g_end (h _ _ ⟨rfl, rfl⟩)), ?_⟩
        refine ob_q rfl rfl ⟨_, fun X Q h => o_loadE0 (ys := xs) (v := .int .i64 x) rfl hx rfl (g_end (h _ _ ⟨rfl, rfl⟩)), ?_⟩
        refine ob_q rfl rfl ⟨_, fun X Q h => o_leq rfl rfl (g_end (h _ _ ⟨rfl, rfl⟩)), ?_⟩
        refine ob_nil ?_
        refine G.imp (hQ_ .normal _) ?_
        clear hQ_ Q_
        try refine g_then ?_
        first | refine g_seq (g_cond_f rfl (by simp; omega) ?_) | refine g_cond_f rfl (by simp; omega) ?_
        repeat (first | refine g_endt ?_ | refine g_end ?_ | refine g_then ?_ | refine g_in_normal ?_ | refine g_then_ret ?_ | refine g_in_ret ?_ | refine g_then_exit ?_ | refine g_in_exit rfl ?_ | refine g_in_exit_ne (by decide) ?_ | refine g_seq ?_ | refine g_region ?_ | refine g_block ?_ | refine g_ret ?_ | refine g_return_n ?_ | refine g_exit ?_ | refine g_skip ?_)
        repeat (first | refine g_endt ?_ | refine g_end ?_ | refine g_then ?_ | refine g_in_normal ?_ | refine g_then_ret ?_ | refine g_in_ret ?_ | refine g_then_exit ?_ | refine g_in_exit rfl ?_ | refine g_in_exit_ne (by decide) ?_ | refine g_seq ?_ | refine g_region ?_ | refine g_block ?_ | refine g_ret ?_ | refine g_return_n ?_ | refine g_exit ?_ | refine g_skip ?_)
        refine g_hideR fun Q_ hQ_ => ?_
        refine o_move ?_
        refine o_add (c := ((i + 1 : Nat) : Int)) rfl rfl (by omega) (by omega) (by omega) ?_
        refine o_assign ?_
        refine g_end (G.imp (hQ_ .normal _) ?_)
        clear hQ_ Q_
        try refine g_then ?_
        repeat (first | refine g_endt ?_ | refine g_end ?_ | refine g_then ?_ | refine g_in_normal ?_ | refine g_then_ret ?_ | refine g_in_ret ?_ | refine g_then_exit ?_ | refine g_in_exit rfl ?_ | refine g_in_exit_ne (by decide) ?_ | refine g_seq ?_ | refine g_region ?_ | refine g_block ?_ | refine g_ret ?_ | refine g_return_n ?_ | refine g_exit ?_ | refine g_skip ?_)
        exact g_meets ⟨i + 1, by omega, .inl hin⟩ (by show xs.length + 1 - (i + 1) < xs.length + 1 - i; omega) (Sat.mem ⟨rfl, rfl, rfl, rfl, trivial⟩)
      · first | refine g_seq (g_cond_f rfl (by simp; omega) ?_) | refine g_cond_f rfl (by simp; omega) ?_
        refine G.taken (S := S1) (xs := xs) (enc := encI) (sz := 1) k ?_
        have htk : (xs.take k).length = k := by simp; omega
        repeat (first | refine g_endt ?_ | refine g_end ?_ | refine g_then ?_ | refine g_in_normal ?_ | refine g_then_ret ?_ | refine g_in_ret ?_ | refine g_then_exit ?_ | refine g_in_exit rfl ?_ | refine g_in_exit_ne (by decide) ?_ | refine g_seq ?_ | refine g_region ?_ | refine g_block ?_ | refine g_ret ?_ | refine g_return_n ?_ | refine g_exit ?_ | refine g_skip ?_)
        refine g_hide fun Q_ hQ_ => ?_
        refine g_draw [2,6,9,11,14] [0,1,3,4,5,2,6,7,8,10,9,11,12,13,14,15,16] [psl encI 1 S1 (xs.take k), psl encI 1 S1 xs, pD b1 d, pK b2 lv] mixed rfl ?_
        refine ob_q rfl rfl ⟨_, fun X Q h => o_move (g_end (h _ _ ⟨rfl, rfl⟩)), ?_⟩
        refine ob_q rfl rfl ⟨_, fun X Q h => o_move (g_end (h _ _ ⟨rfl, rfl⟩)), ?_⟩
        refine ob_q rfl rfl ⟨_, fun X Q h => o_move (g_end (h _ _ ⟨rfl, rfl⟩)), ?_⟩
        refine ob_q rfl rfl ⟨_, fun X Q h => o_move (g_end (h _ _ ⟨rfl, rfl⟩)), ?_⟩
        refine ob_q rfl rfl ⟨_, fun X Q h => o_uptoP (k := k) rfl rfl rfl (by omega) (g_end (h _ _ ⟨rfl, rfl⟩)), ?_⟩
        refine ob_l rfl rfl fun Qz hz => o_callx [pD b1 d, pK b2 lv] [DepP d T] (FirstKI_spec 34 [.pointer (some ⟨b1, 0, none⟩), .pointer (some ⟨b2, 0, none⟩)] k (by omega) xs (by omega) [pD b1 d, pK b2 lv, DepP d T] hit (by omega)) rfl rfl ?_
        rintro _ _ ⟨S2, e2, rfl, rfl⟩
        refine G.bring [osl 3 encI 1 S2 e2 (xs.take k)] (G.frzc fun hroom2 => ?_)
        refine g_end (hz _ _ ⟨_, ob_fin, ?_⟩)
        clear hz Qz
        refine ob_l rfl rfl fun Qz hz => o_callp (Ints_spec S2 S1 k e2 e1 (xs.take k) htk (by omega)) rfl rfl ?_
        rintro _ _ ⟨rfl, rfl⟩
        refine g_end (hz _ _ ⟨_, ob_fin, ?_⟩)
        clear hz Qz
        refine ob_q rfl rfl ⟨_, fun X Q h => o_move (g_end (h _ _ ⟨rfl, rfl⟩)), ?_⟩
        first | refine ob_q rfl rfl ⟨_, fun X Q h => o_want rfl rfl rfl rfl rfl <| o_move (g_end (h _ _ ⟨rfl, rfl⟩)), ?_⟩ | refine ob_q rfl rfl ⟨_, fun X Q h => o_unwanted rfl rfl rfl rfl rfl (g_end (h _ _ ⟨rfl, rfl⟩)), ?_⟩ | refine ob_q rfl rfl ⟨_, fun X Q h => o_undef rfl rfl rfl (g_end (h _ _ ⟨rfl, rfl⟩)), ?_⟩
        first | refine ob_q rfl rfl ⟨_, fun X Q h => o_want rfl rfl rfl rfl rfl <| o_move (g_end (h _ _ ⟨rfl, rfl⟩)), ?_⟩ | refine ob_q rfl rfl ⟨_, fun X Q h => o_unwanted rfl rfl rfl rfl rfl (g_end (h _ _ ⟨rfl, rfl⟩)), ?_⟩ | refine ob_q rfl rfl ⟨_, fun X Q h => o_undef rfl rfl rfl (g_end (h _ _ ⟨rfl, rfl⟩)), ?_⟩
        refine ob_l rfl rfl fun Qz hz => o_want rfl rfl rfl rfl rfl <| o_callx [pD b1 d, pK b2 lv] [DepP d T] (ListI_spec 34 [.pointer (some ⟨b1, 0, none⟩), .pointer (some ⟨b2, 0, none⟩)] xs rfl (by omega) [pD b1 d, pK b2 lv, DepP d T] hit) rfl rfl ?_
        rintro _ _ ⟨S3, e3, rfl, rfl⟩
        refine G.bring [osl 3 encI 1 S3 e3 xs] (G.frzc fun hroom3 => ?_)
        refine g_end (hz _ _ ⟨_, ob_fin, ?_⟩)
        clear hz Qz
        refine ob_l rfl rfl fun Qz hz => o_want rfl rfl rfl rfl rfl <| o_callp (Ints_spec S3 S1 xs.length e3 e1 xs rfl (by omega)) rfl rfl ?_
        rintro _ _ ⟨rfl, rfl⟩
        refine g_end (hz _ _ ⟨_, ob_fin, ?_⟩)
        clear hz Qz
        first | refine ob_q rfl rfl ⟨_, fun X Q h => o_pick_t rfl rfl (g_end (h _ _ ⟨rfl, rfl⟩)), ?_⟩ | refine ob_q rfl rfl ⟨_, fun X Q h => o_pick_f rfl rfl (g_end (h _ _ ⟨rfl, rfl⟩)), ?_⟩
        refine ob_q rfl rfl ⟨_, fun X Q h => o_move (g_end (h _ _ ⟨rfl, rfl⟩)), ?_⟩
        refine ob_l rfl rfl fun Qz hz => o_want rfl rfl rfl rfl rfl <| o_call (wakes20_spec) rfl rfl ?_
        rintro _ _ ⟨rfl, rfl⟩
        refine g_end (hz _ _ ⟨_, ob_fin, ?_⟩)
        clear hz Qz
        first | refine ob_q rfl rfl ⟨_, fun X Q h => o_pick_t rfl rfl (g_end (h _ _ ⟨rfl, rfl⟩)), ?_⟩ | refine ob_q rfl rfl ⟨_, fun X Q h => o_pick_f rfl rfl (g_end (h _ _ ⟨rfl, rfl⟩)), ?_⟩
        refine ob_q rfl rfl ⟨_, fun X Q h => o_assign (g_end (h _ _ ⟨rfl, rfl⟩)), ?_⟩
        refine ob_nil ?_
        refine G.imp (hQ_ .normal _) ?_
        clear hQ_ Q_
        try refine g_then ?_
        repeat (first | refine g_endt ?_ | refine g_end ?_ | refine g_then ?_ | refine g_in_normal ?_ | refine g_then_ret ?_ | refine g_in_ret ?_ | refine g_then_exit ?_ | refine g_in_exit rfl ?_ | refine g_in_exit_ne (by decide) ?_ | refine g_seq ?_ | refine g_region ?_ | refine g_block ?_ | refine g_ret ?_ | refine g_return_n ?_ | refine g_exit ?_ | refine g_skip ?_)
        exact ret1 (K := []) rfl (resT (v := .bool true) rfl) ⟨rfl, rfl⟩
end Go.Proofs.Yteokgobeafnpoaa
/- What goals depend on, cloned and cut: the walk. -/
namespace Go.Proofs.Yteokgobeafnpoaa
open Go Go.Sl
attribute [local irreducible] Exit.then Exit.inBlock Code.wpIn roundPost bodyPostM runL Ret Meets MeetsD Begin

theorem sumTo_low {T : DpT} {lv k : Int} (h1 : 2 ≤ k) (h2 : k ≤ 8) (h3 : k < lv) : sumTo T lv (k + 1) = sumTo T lv k := by
  have hc : cutK T lv k = 0 := by unfold cutK; rw [if_neg (by omega)]
  unfold sumTo lvls
  have : k = 2 ∨ k = 3 ∨ k = 4 ∨ k = 5 ∨ k = 6 ∨ k = 7 ∨ k = 8 := by omega
  rcases this with rfl | rfl | rfl | rfl | rfl | rfl | rfl <;> simp [hc]
theorem sumTo_two {T : DpT} {lv : Int} : sumTo T lv 2 = 0 := sum_zero _ _ fun j hj => by
  have := mem_lvls.1 hj
  rw [if_neg (by omega)]
theorem cutN_cut {T : DpT} {lv : Int} : cutN (cutD T lv) lv = 0 := sum_zero _ _ fun j hj => by
  unfold cutK cutD
  split
  · rfl
  · rfl
theorem cutN_le {T : DpT} {B : Nat} (hb : ∀ j, (T j).length ≤ B) (lv : Int) : cutN T lv ≤ 7 * B := by rw [← sumTo_last (T := T) (lv := lv) (Int.le_refl 9)]; exact sumTo_le hb lv 9
theorem CutK_spec (d : Nat) (T : DpT) (lv : Int) (hb : ∀ j, (T j).length ≤ 1000000) {v0 : Int} (h : (cutN T lv : Int) = v0) :
    Ctr Try.prog 23 [.pointer (some ⟨d, 0, none⟩), .int .i64 lv] [DepP d T] (fun v M => v = .int .i64 v0 ∧ M = [DepP d (cutD T lv)]) := by
  rw [← h]; exact CutDp_spec d T lv hb
set_option maxHeartbeats 2000000 in
theorem DepsCuts_spec (A : Option Addr) (n c : Nat) (ys : List DaD) (hl : ys.length = n) (hm : n ≤ 9223372036854775807) (hr : ∀ q ∈ ys, q.r.zs.length = q.r.len ∧ q.r.len ≤ 9223372036854775807) (lv : Int) :
    Ctr Try.prog 6 [.slice A n c, .int .i64 lv] (daK A ys) (fun v M => v = .bool true ∧ M = []) := by
  refine spec_of Try.func6 rfl Try.ntmps6 rfl fun w0 F => ?_
  -- hide
  -- ponder/ponderlaw20.DepsCuts
  repeat (first | refine g_endt ?_ | refine g_end ?_ | refine g_then ?_ | refine g_in_normal ?_ | refine g_then_ret ?_ | refine g_in_ret ?_ | refine g_then_exit ?_ | refine g_in_exit rfl ?_ | refine g_in_exit_ne (by decide) ?_ | refine g_seq ?_ | refine g_region ?_ | refine g_block ?_ | refine g_ret ?_ | refine g_return_n ?_ | refine g_exit ?_ | refine g_skip ?_)
  refine g_hideR fun Q_ hQ_ => ?_
  refine o_assign ?_
  refine g_end (G.imp (hQ_ .normal _) ?_)
  clear hQ_ Q_
  try refine g_then ?_
  repeat (first | refine g_endt ?_ | refine g_end ?_ | refine g_then ?_ | refine g_in_normal ?_ | refine g_then_ret ?_ | refine g_in_ret ?_ | refine g_then_exit ?_ | refine g_in_exit rfl ?_ | refine g_in_exit_ne (by decide) ?_ | refine g_seq ?_ | refine g_region ?_ | refine g_block ?_ | refine g_ret ?_ | refine g_return_n ?_ | refine g_exit ?_ | refine g_skip ?_)
  refine g_hideR fun Q_ hQ_ => ?_
  refine o_call (NewDp_spec) rfl rfl ?_
  rintro _ _ ⟨d, rfl, rfl⟩
  refine o_assign ?_
  refine g_end (G.imp (hQ_ .normal _) ?_)
  clear hQ_ Q_
  try refine g_then ?_
  repeat (first | refine g_endt ?_ | refine g_end ?_ | refine g_then ?_ | refine g_in_normal ?_ | refine g_then_ret ?_ | refine g_in_ret ?_ | refine g_then_exit ?_ | refine g_in_exit rfl ?_ | refine g_in_exit_ne (by decide) ?_ | refine g_seq ?_ | refine g_region ?_ | refine g_block ?_ | refine g_ret ?_ | refine g_return_n ?_ | refine g_exit ?_ | refine g_skip ?_)
  refine g_hideR fun Q_ hQ_ => ?_
  refine o_move ?_
  refine o_peql rfl ?_
  refine g_end (G.imp (hQ_ .normal _) ?_)
  clear hQ_ Q_
  try refine g_then ?_
  first | refine g_seq (g_cond_f rfl (by first | rfl | (simp; done) | (simp; omega) | (simp; assumption)) ?_) | refine g_cond_f rfl (by first | rfl | (simp; done) | (simp; omega) | (simp; assumption)) ?_
  obtain ⟨hv, hhv⟩ : ∃ b, heavyD ys = b := ⟨_, rfl⟩
  repeat (first | refine g_endt ?_ | refine g_end ?_ | refine g_then ?_ | refine g_in_normal ?_ | refine g_then_ret ?_ | refine g_in_ret ?_ | refine g_then_exit ?_ | refine g_in_exit rfl ?_ | refine g_in_exit_ne (by decide) ?_ | refine g_seq ?_ | refine g_region ?_ | refine g_block ?_ | refine g_ret ?_ | refine g_return_n ?_ | refine g_exit ?_ | refine g_skip ?_)
  refine g_hideR fun Q_ hQ_ => ?_
  refine o_move ?_
  refine o_callp (heavyD_spec A n c ys hl hm hhv) rfl rfl ?_
  rintro _ _ ⟨rfl, rfl⟩
  refine g_end (G.imp (hQ_ .normal _) ?_)
  clear hQ_ Q_
  try refine g_then ?_
  cases hv with
  | true =>
    first | refine g_seq (g_cond_t rfl (by first | rfl | (simp; done) | (simp; omega) | (simp; assumption)) ?_) | refine g_cond_t rfl (by first | rfl | (simp; done) | (simp; omega) | (simp; assumption)) ?_
    repeat (first | refine g_endt ?_ | refine g_end ?_ | refine g_then ?_ | refine g_in_normal ?_ | refine g_then_ret ?_ | refine g_in_ret ?_ | refine g_then_exit ?_ | refine g_in_exit rfl ?_ | refine g_in_exit_ne (by decide) ?_ | refine g_seq ?_ | refine g_region ?_ | refine g_block ?_ | refine g_ret ?_ | refine g_return_n ?_ | refine g_exit ?_ | refine g_skip ?_)
    refine g_hideR fun Q_ hQ_ => ?_
    refine o_call (wakes20_spec) rfl rfl ?_
    rintro _ _ ⟨rfl, rfl⟩
    refine o_assign ?_
    refine g_end (G.imp (hQ_ .normal _) ?_)
    clear hQ_ Q_
    try refine g_then ?_
    repeat (first | refine g_endt ?_ | refine g_end ?_ | refine g_then ?_ | refine g_in_normal ?_ | refine g_then_ret ?_ | refine g_in_ret ?_ | refine g_then_exit ?_ | refine g_in_exit rfl ?_ | refine g_in_exit_ne (by decide) ?_ | refine g_seq ?_ | refine g_region ?_ | refine g_block ?_ | refine g_ret ?_ | refine g_return_n ?_ | refine g_exit ?_ | refine g_skip ?_)
    exact ret1 (K := []) rfl (resT (v := .bool true) rfl) ⟨rfl, rfl⟩
  | false =>
    obtain ⟨h60, h30⟩ := heavy_no hhv
    have htl := tags_len hr h30
    first | refine g_seq (g_cond_f rfl (by first | rfl | (simp; done) | (simp; omega) | (simp; assumption)) ?_) | refine g_cond_f rfl (by first | rfl | (simp; done) | (simp; omega) | (simp; assumption)) ?_
    repeat (first | refine g_endt ?_ | refine g_end ?_ | refine g_then ?_ | refine g_in_normal ?_ | refine g_then_ret ?_ | refine g_in_ret ?_ | refine g_then_exit ?_ | refine g_in_exit rfl ?_ | refine g_in_exit_ne (by decide) ?_ | refine g_seq ?_ | refine g_region ?_ | refine g_block ?_ | refine g_ret ?_ | refine g_return_n ?_ | refine g_exit ?_ | refine g_skip ?_)
    refine g_hideR fun Q_ hQ_ => ?_
    refine o_assign ?_
    refine g_end (G.imp (hQ_ .normal _) ?_)
    clear hQ_ Q_
    try refine g_then ?_
    repeat (first | refine g_endt ?_ | refine g_end ?_ | refine g_then ?_ | refine g_in_normal ?_ | refine g_then_ret ?_ | refine g_in_ret ?_ | refine g_then_exit ?_ | refine g_in_exit rfl ?_ | refine g_in_exit_ne (by decide) ?_ | refine g_seq ?_ | refine g_region ?_ | refine g_block ?_ | refine g_ret ?_ | refine g_return_n ?_ | refine g_exit ?_ | refine g_skip ?_)
    refine g_loop (σ := {i : Nat // i ≤ n}) (S := fun i => [(0, .slice A n c), (1, .int .i64 lv), (5, .pointer (some ⟨d, 0, none⟩)), (6, .int .i64 (i.1 : Int))]) (H := fun i => DepP d (allD (ys.take i.1)) :: daK A ys) (μ := fun i => n - i.1) (s0 := ⟨0, Nat.zero_le _⟩) (Sat.mem ⟨rfl, rfl, rfl, rfl, trivial⟩) (t := (inferInstance : Take _ (DepP d dp0 :: daK A ys) _)) ?_
    rintro ⟨i, hi⟩ ρ'
    dsimp only at hi ⊢
    repeat (first | refine g_endt ?_ | refine g_end ?_ | refine g_then ?_ | refine g_in_normal ?_ | refine g_then_ret ?_ | refine g_in_ret ?_ | refine g_then_exit ?_ | refine g_in_exit rfl ?_ | refine g_in_exit_ne (by decide) ?_ | refine g_seq ?_ | refine g_region ?_ | refine g_block ?_ | refine g_ret ?_ | refine g_return_n ?_ | refine g_exit ?_ | refine g_skip ?_)
    refine g_hideR fun Q_ hQ_ => ?_
    refine o_move ?_
    refine o_move ?_
    refine o_len rfl rfl ?_
    refine o_lss rfl rfl ?_
    refine g_end (G.imp (hQ_ .normal _) ?_)
    clear hQ_ Q_
    try refine g_then ?_
    by_cases hin : i < n
    · first | refine g_seq (g_cond_t rfl (by first | rfl | (simp; done) | (simp; omega) | (simp; assumption)) ?_) | refine g_cond_t rfl (by first | rfl | (simp; done) | (simp; omega) | (simp; assumption)) ?_
      obtain ⟨q, hq⟩ : ∃ q, ys[i]? = some q := ⟨_, List.getElem?_eq_getElem (by omega)⟩
      have hqm := List.mem_of_getElem? hq
      obtain ⟨hq1, _⟩ := hr q hqm
      have hq30 := h30 q hqm
      have hok := allD_take_ok (by omega) htl i
      have hT' : addD (allD (ys.take i)) q.n (q.r.zs.map NumD.mk) = allD (ys.take (i + 1)) := (allD_take hq).symm
      generalize allD (ys.take i) = U at hok hT' ⊢
      refine G.rowG (enc := encI) (sz := 1) (rs := ys.map DaD.r) (r := q.r) (List.mem_map.2 ⟨q, hqm, rfl⟩) ?_
      repeat (first | refine g_endt ?_ | refine g_end ?_ | refine g_then ?_ | refine g_in_normal ?_ | refine g_then_ret ?_ | refine g_in_ret ?_ | refine g_then_exit ?_ | refine g_in_exit rfl ?_ | refine g_in_exit_ne (by decide) ?_ | refine g_seq ?_ | refine g_region ?_ | refine g_block ?_ | refine g_ret ?_ | refine g_return_n ?_ | refine g_exit ?_ | refine g_skip ?_)
      refine g_hide fun Q_ hQ_ => ?_
      refine g_draw [11,12] [0,1,2,3,4,5,6,7,8,9,10,11,12] [psl encDA 3 A ys] mixed rfl ?_
      refine ob_q rfl rfl ⟨_, fun X Q h => o_move (g_end (h _ _ ⟨rfl, rfl⟩)), ?_⟩
      refine ob_q rfl rfl ⟨_, fun X Q h => o_move (g_end (h _ _ ⟨rfl, rfl⟩)), ?_⟩
      refine ob_q rfl rfl ⟨_, fun X Q h => o_move (g_end (h _ _ ⟨rfl, rfl⟩)), ?_⟩
      refine ob_q rfl rfl ⟨_, fun X Q h => o_indexR (ys := ys) (i := i) rfl rfl rfl (by omega) hl rfl (g_end (h _ _ ⟨rfl, rfl⟩)), ?_⟩
      refine ob_q rfl rfl ⟨_, fun X Q h => o_fieldR rfl (by omega) (g_end (h _ _ ⟨rfl, rfl⟩)), ?_⟩
      refine ob_q rfl rfl ⟨_, fun X Q h => o_loadE1 (ys := ys) (v := .int .i64 q.n) rfl hq rfl (g_end (h _ _ ⟨rfl, rfl⟩)), ?_⟩
      refine ob_q rfl rfl ⟨_, fun X Q h => o_move (g_end (h _ _ ⟨rfl, rfl⟩)), ?_⟩
      refine ob_q rfl rfl ⟨_, fun X Q h => o_move (g_end (h _ _ ⟨rfl, rfl⟩)), ?_⟩
      refine ob_q rfl rfl ⟨_, fun X Q h => o_indexR (ys := ys) (i := i) rfl rfl rfl (by omega) hl rfl (g_end (h _ _ ⟨rfl, rfl⟩)), ?_⟩
      refine ob_q rfl rfl ⟨_, fun X Q h => o_fieldR rfl (by omega) (g_end (h _ _ ⟨rfl, rfl⟩)), ?_⟩
      refine ob_q rfl rfl ⟨_, fun X Q h => o_loadE1 (ys := ys) (v := .slice q.r.a q.r.len q.r.cap) rfl hq rfl (g_end (h _ _ ⟨rfl, rfl⟩)), ?_⟩
      refine ob_l rfl rfl fun Qz hz => o_call (OfI_spec q.r.a q.r.len q.r.cap) rfl rfl ?_
      rintro _ _ ⟨bo, rfl, rfl⟩
      refine g_end (hz _ _ ⟨_, ob_fin, ?_⟩)
      clear hz Qz
      refine ob_l rfl rfl fun Qz hz => o_call (AddK_spec d U q.n 31 [.pointer (some ⟨bo, 0, none⟩)] q.r.zs (by omega) (fun j => Nat.le_trans (hok.len j) (by decide)) [pblk bo (.cells #[.slice q.r.a q.r.len q.r.cap] 23 (0, 0)), psl encI 1 q.r.a q.r.zs] (fun K => Of1I_iter bo q.r.a q.r.len q.r.cap q.r.zs hq1 (by omega) _) rfl hT') rfl rfl ?_
      rintro _ _ ⟨rfl, rfl⟩
      refine g_end (hz _ _ ⟨_, ob_fin, ?_⟩)
      clear hz Qz
      refine ob_nil ?_
      refine G.imp (hQ_ .normal _) ?_
      clear hQ_ Q_
      try refine g_then ?_
      repeat (first | refine g_endt ?_ | refine g_end ?_ | refine g_then ?_ | refine g_in_normal ?_ | refine g_then_ret ?_ | refine g_in_ret ?_ | refine g_then_exit ?_ | refine g_in_exit rfl ?_ | refine g_in_exit_ne (by decide) ?_ | refine g_seq ?_ | refine g_region ?_ | refine g_block ?_ | refine g_ret ?_ | refine g_return_n ?_ | refine g_exit ?_ | refine g_skip ?_)
      repeat (first | refine g_endt ?_ | refine g_end ?_ | refine g_then ?_ | refine g_in_normal ?_ | refine g_then_ret ?_ | refine g_in_ret ?_ | refine g_then_exit ?_ | refine g_in_exit rfl ?_ | refine g_in_exit_ne (by decide) ?_ | refine g_seq ?_ | refine g_region ?_ | refine g_block ?_ | refine g_ret ?_ | refine g_return_n ?_ | refine g_exit ?_ | refine g_skip ?_)
      refine g_hideR fun Q_ hQ_ => ?_
      refine o_move ?_
      refine o_add (c := ((i + 1 : Nat) : Int)) rfl rfl (by omega) (by omega) (by omega) ?_
      refine o_assign ?_
      refine g_end (G.imp (hQ_ .normal _) ?_)
      clear hQ_ Q_
      try refine g_then ?_
      repeat (first | refine g_endt ?_ | refine g_end ?_ | refine g_then ?_ | refine g_in_normal ?_ | refine g_then_ret ?_ | refine g_in_ret ?_ | refine g_then_exit ?_ | refine g_in_exit rfl ?_ | refine g_in_exit_ne (by decide) ?_ | refine g_seq ?_ | refine g_region ?_ | refine g_block ?_ | refine g_ret ?_ | refine g_return_n ?_ | refine g_exit ?_ | refine g_skip ?_)
      exact g_meets ⟨i + 1, hin⟩ (by show n - (i + 1) < n - i; omega) (Sat.mem ⟨rfl, rfl, rfl, rfl, trivial⟩)
    · first | refine g_seq (g_cond_f rfl (by simp; omega) ?_) | refine g_cond_f rfl (by simp; omega) ?_
      rw [List.take_of_length_le (by omega)]
      have hok : OkT (allD ys) 1800 := by have := allD_take_ok (by omega) htl n; rwa [List.take_of_length_le (by omega)] at this
      generalize allD ys = T at hok ⊢
      repeat (first | refine g_endt ?_ | refine g_end ?_ | refine g_then ?_ | refine g_in_normal ?_ | refine g_then_ret ?_ | refine g_in_ret ?_ | refine g_then_exit ?_ | refine g_in_exit rfl ?_ | refine g_in_exit_ne (by decide) ?_ | refine g_seq ?_ | refine g_region ?_ | refine g_block ?_ | refine g_ret ?_ | refine g_return_n ?_ | refine g_exit ?_ | refine g_skip ?_)
      refine g_hideR fun Q_ hQ_ => ?_
      refine o_move ?_
      refine o_call (CloneDp_spec d T) rfl rfl ?_
      rintro _ _ ⟨e, rfl, rfl⟩
      refine o_assign ?_
      refine g_end (G.imp (hQ_ .normal _) ?_)
      clear hQ_ Q_
      try refine g_then ?_
      repeat (first | refine g_endt ?_ | refine g_end ?_ | refine g_then ?_ | refine g_in_normal ?_ | refine g_then_ret ?_ | refine g_in_ret ?_ | refine g_then_exit ?_ | refine g_in_exit rfl ?_ | refine g_in_exit_ne (by decide) ?_ | refine g_seq ?_ | refine g_region ?_ | refine g_block ?_ | refine g_ret ?_ | refine g_return_n ?_ | refine g_exit ?_ | refine g_skip ?_)
      refine g_hideR fun Q_ hQ_ => ?_
      refine o_move ?_
      refine o_peql rfl ?_
      refine g_end (G.imp (hQ_ .normal _) ?_)
      clear hQ_ Q_
      try refine g_then ?_
      first | refine g_seq (g_cond_f rfl (by first | rfl | (simp; done) | (simp; omega) | (simp; assumption)) ?_) | refine g_cond_f rfl (by first | rfl | (simp; done) | (simp; omega) | (simp; assumption)) ?_
      repeat (first | refine g_endt ?_ | refine g_end ?_ | refine g_then ?_ | refine g_in_normal ?_ | refine g_then_ret ?_ | refine g_in_ret ?_ | refine g_then_exit ?_ | refine g_in_exit rfl ?_ | refine g_in_exit_ne (by decide) ?_ | refine g_seq ?_ | refine g_region ?_ | refine g_block ?_ | refine g_ret ?_ | refine g_return_n ?_ | refine g_exit ?_ | refine g_skip ?_)
      refine g_hideR fun Q_ hQ_ => ?_
      refine o_move ?_
      refine o_move ?_
      refine o_call (CutDp_spec e T lv (fun j => Nat.le_trans (hok.len j) (by decide))) rfl rfl ?_
      rintro _ _ ⟨rfl, rfl⟩
      refine o_assign ?_
      refine g_end (G.imp (hQ_ .normal _) ?_)
      clear hQ_ Q_
      try refine g_then ?_
      have hcl := cutN_le hok.len lv
      repeat (first | refine g_endt ?_ | refine g_end ?_ | refine g_then ?_ | refine g_in_normal ?_ | refine g_then_ret ?_ | refine g_in_ret ?_ | refine g_then_exit ?_ | refine g_in_exit rfl ?_ | refine g_in_exit_ne (by decide) ?_ | refine g_seq ?_ | refine g_region ?_ | refine g_block ?_ | refine g_ret ?_ | refine g_return_n ?_ | refine g_exit ?_ | refine g_skip ?_)
      refine g_hideR fun Q_ hQ_ => ?_
      refine o_assign ?_
      refine g_end (G.imp (hQ_ .normal _) ?_)
      clear hQ_ Q_
      try refine g_then ?_
      repeat (first | refine g_endt ?_ | refine g_end ?_ | refine g_then ?_ | refine g_in_normal ?_ | refine g_then_ret ?_ | refine g_in_ret ?_ | refine g_then_exit ?_ | refine g_in_exit rfl ?_ | refine g_in_exit_ne (by decide) ?_ | refine g_seq ?_ | refine g_region ?_ | refine g_block ?_ | refine g_ret ?_ | refine g_return_n ?_ | refine g_exit ?_ | refine g_skip ?_)
      refine g_loop (σ := {k : Int // 2 ≤ k ∧ k ≤ 9}) (S := fun k => [(1, .int .i64 lv), (5, .pointer (some ⟨d, 0, none⟩)), (7, .pointer (some ⟨e, 0, none⟩)), (8, .int .i64 ((cutN T lv : Int) - (sumTo T lv k.1 : Int))), (9, .int .i64 k.1)]) (H := fun _ => [DepP d T, DepP e (cutD T lv)]) (μ := fun k => (9 - k.1).toNat) (s0 := ⟨2, by omega, by omega⟩) (Sat.mem ⟨rfl, rfl, rfl, by rw [sumTo_two]; simp; rfl, rfl, trivial⟩) ?_
      rintro ⟨k, hk2, hk9⟩ ρ2
      dsimp only at hk2 hk9 ⊢
      repeat (first | refine g_endt ?_ | refine g_end ?_ | refine g_then ?_ | refine g_in_normal ?_ | refine g_then_ret ?_ | refine g_in_ret ?_ | refine g_then_exit ?_ | refine g_in_exit rfl ?_ | refine g_in_exit_ne (by decide) ?_ | refine g_seq ?_ | refine g_region ?_ | refine g_block ?_ | refine g_ret ?_ | refine g_return_n ?_ | refine g_exit ?_ | refine g_skip ?_)
      refine g_hideR fun Q_ hQ_ => ?_
      refine o_move ?_
      refine o_leq rfl rfl ?_
      refine g_end (G.imp (hQ_ .normal _) ?_)
      clear hQ_ Q_
      try refine g_then ?_
      by_cases hk : k ≤ 8
      · first | refine g_seq (g_cond_t rfl (by simpa using hk) ?_) | refine g_cond_t rfl (by simpa using hk) ?_
        have hsl := sumTo_le hok.len lv k
        have hlo := sumTo_low (T := T) (lv := lv) hk2 hk
        have hst := sumTo_step (T := T) (lv := lv) hk2 hk
        have hcut : cutD T lv k = if lv ≤ k then [] else T k := rfl
        have hbk := hok.len k
        obtain ⟨vs, hvs⟩ : ∃ vs, cutD T lv k = vs := ⟨_, rfl⟩
        have hvl : vs.length ≤ 1800 := by rw [← hvs]; exact (hok.cut lv).len k
        generalize sumTo T lv k = N at hsl hlo hst ⊢
        generalize cutN T lv = C at hcl ⊢
        repeat (first | refine g_endt ?_ | refine g_end ?_ | refine g_then ?_ | refine g_in_normal ?_ | refine g_then_ret ?_ | refine g_in_ret ?_ | refine g_then_exit ?_ | refine g_in_exit rfl ?_ | refine g_in_exit_ne (by decide) ?_ | refine g_seq ?_ | refine g_region ?_ | refine g_block ?_ | refine g_ret ?_ | refine g_return_n ?_ | refine g_exit ?_ | refine g_skip ?_)
        repeat (first | refine g_endt ?_ | refine g_end ?_ | refine g_then ?_ | refine g_in_normal ?_ | refine g_then_ret ?_ | refine g_in_ret ?_ | refine g_then_exit ?_ | refine g_in_exit rfl ?_ | refine g_in_exit_ne (by decide) ?_ | refine g_seq ?_ | refine g_region ?_ | refine g_block ?_ | refine g_ret ?_ | refine g_return_n ?_ | refine g_exit ?_ | refine g_skip ?_)
        refine g_hideR fun Q_ hQ_ => ?_
        refine o_move ?_
        refine o_move ?_
        refine o_call (OfDp_spec d k) rfl rfl ?_
        rintro _ _ ⟨b1, b2, rfl, rfl⟩
        refine o_call (ListI_spec 34 [.pointer (some ⟨b1, 0, none⟩), .pointer (some ⟨b2, 0, none⟩)] ((T k).map NumD.n) (n := (T k).length) (by simp) (by omega) [pD b1 d, pK b2 k, DepP d T] (fun K => Of1Dp_iter d b1 b2 T k (fun j => Nat.le_trans (hok.len j) (by decide)) _)) rfl rfl ?_
        rintro _ _ ⟨S1, e1, rfl, rfl⟩
        refine o_move ?_
        refine o_move ?_
        refine o_call (OfDp_spec e k) rfl rfl ?_
        rintro _ _ ⟨b3, b4, rfl, rfl⟩
        refine o_call (ListI_spec 34 [.pointer (some ⟨b3, 0, none⟩), .pointer (some ⟨b4, 0, none⟩)] (vs.map NumD.n) (n := vs.length) (by simp) (by omega) [pD b3 e, pK b4 k, DepP e (cutD T lv)] (fun K => hvs ▸ Of1Dp_iter e b3 b4 (cutD T lv) k (fun j => Nat.le_trans ((hok.cut lv).len j) (by decide)) _)) rfl rfl ?_
        rintro _ _ ⟨S2, e2, rfl, rfl⟩
        refine o_assign ?_
        refine o_assign ?_
        refine g_end (G.imp (hQ_ .normal _) ?_)
        clear hQ_ Q_
        try refine g_then ?_
        refine G.bring [osl 3 encI 1 S1 e1 ((T k).map NumD.n)] (G.frz ?_)
        refine G.bring [osl 3 encI 1 S2 e2 (vs.map NumD.n)] (G.frz ?_)
        repeat (first | refine g_endt ?_ | refine g_end ?_ | refine g_then ?_ | refine g_in_normal ?_ | refine g_then_ret ?_ | refine g_in_ret ?_ | refine g_then_exit ?_ | refine g_in_exit rfl ?_ | refine g_in_exit_ne (by decide) ?_ | refine g_seq ?_ | refine g_region ?_ | refine g_block ?_ | refine g_ret ?_ | refine g_return_n ?_ | refine g_exit ?_ | refine g_skip ?_)
        refine g_hideR fun Q_ hQ_ => ?_
        refine o_move ?_
        refine o_move ?_
        refine o_lss rfl rfl ?_
        refine g_end (G.imp (hQ_ .normal _) ?_)
        clear hQ_ Q_
        try refine g_then ?_
        by_cases hlt : k < lv
        · have hv : vs = T k := by rw [← hvs, hcut, if_neg (by omega)]
          subst hv
          rw [← hlo hlt]
          first | refine g_seq (g_cond_t rfl (by simpa using hlt) ?_) | refine g_cond_t rfl (by simpa using hlt) ?_
          repeat (first | refine g_endt ?_ | refine g_end ?_ | refine g_then ?_ | refine g_in_normal ?_ | refine g_then_ret ?_ | refine g_in_ret ?_ | refine g_then_exit ?_ | refine g_in_exit rfl ?_ | refine g_in_exit_ne (by decide) ?_ | refine g_seq ?_ | refine g_region ?_ | refine g_block ?_ | refine g_ret ?_ | refine g_return_n ?_ | refine g_exit ?_ | refine g_skip ?_)
          refine g_hideR fun Q_ hQ_ => ?_
          refine o_move ?_
          refine o_move ?_
          refine o_callp (Ints_spec S1 S2 (T k).length e1 e2 ((T k).map NumD.n) (by simp) (by omega)) rfl rfl ?_
          rintro _ _ ⟨rfl, rfl⟩
          refine o_not rfl ?_
          refine g_end (G.imp (hQ_ .normal _) ?_)
          clear hQ_ Q_
          try refine g_then ?_
          first | refine g_seq (g_cond_f rfl (by first | rfl | (simp; done) | (simp; omega) | (simp; assumption)) ?_) | refine g_cond_f rfl (by first | rfl | (simp; done) | (simp; omega) | (simp; assumption)) ?_
          repeat (first | refine g_endt ?_ | refine g_end ?_ | refine g_then ?_ | refine g_in_normal ?_ | refine g_then_ret ?_ | refine g_in_ret ?_ | refine g_then_exit ?_ | refine g_in_exit rfl ?_ | refine g_in_exit_ne (by decide) ?_ | refine g_seq ?_ | refine g_region ?_ | refine g_block ?_ | refine g_ret ?_ | refine g_return_n ?_ | refine g_exit ?_ | refine g_skip ?_)
          repeat (first | refine g_endt ?_ | refine g_end ?_ | refine g_then ?_ | refine g_in_normal ?_ | refine g_then_ret ?_ | refine g_in_ret ?_ | refine g_then_exit ?_ | refine g_in_exit rfl ?_ | refine g_in_exit_ne (by decide) ?_ | refine g_seq ?_ | refine g_region ?_ | refine g_block ?_ | refine g_ret ?_ | refine g_return_n ?_ | refine g_exit ?_ | refine g_skip ?_)
          refine g_hideR fun Q_ hQ_ => ?_
          refine o_move ?_
          refine o_add (c := k + 1) rfl rfl rfl (by omega) (by omega) ?_
          refine o_assign ?_
          refine g_end (G.imp (hQ_ .normal _) ?_)
          clear hQ_ Q_
          try refine g_then ?_
          repeat (first | refine g_endt ?_ | refine g_end ?_ | refine g_then ?_ | refine g_in_normal ?_ | refine g_then_ret ?_ | refine g_in_ret ?_ | refine g_then_exit ?_ | refine g_in_exit rfl ?_ | refine g_in_exit_ne (by decide) ?_ | refine g_seq ?_ | refine g_region ?_ | refine g_block ?_ | refine g_ret ?_ | refine g_return_n ?_ | refine g_exit ?_ | refine g_skip ?_)
          exact g_meets ⟨k + 1, by omega, by omega⟩ (by show (9 - (k + 1)).toNat < (9 - k).toNat; omega) (Sat.mem ⟨rfl, rfl, rfl, rfl, rfl, trivial⟩)
        · have hv : vs = [] := by rw [← hvs, hcut, if_pos (by omega)]
          subst hv
          have hst := hst (by omega)
          first | refine g_seq (g_cond_f rfl (by simpa using hlt) ?_) | refine g_cond_f rfl (by simpa using hlt) ?_
          repeat (first | refine g_endt ?_ | refine g_end ?_ | refine g_then ?_ | refine g_in_normal ?_ | refine g_then_ret ?_ | refine g_in_ret ?_ | refine g_then_exit ?_ | refine g_in_exit rfl ?_ | refine g_in_exit_ne (by decide) ?_ | refine g_seq ?_ | refine g_region ?_ | refine g_block ?_ | refine g_ret ?_ | refine g_return_n ?_ | refine g_exit ?_ | refine g_skip ?_)
          refine g_hideR fun Q_ hQ_ => ?_
          refine o_move ?_
          refine o_len rfl rfl ?_
          refine o_gtr rfl rfl ?_
          refine g_end (G.imp (hQ_ .normal _) ?_)
          clear hQ_ Q_
          try refine g_then ?_
          first | refine g_seq (g_cond_f rfl (by first | rfl | (simp; done) | (simp; omega) | (simp; assumption)) ?_) | refine g_cond_f rfl (by first | rfl | (simp; done) | (simp; omega) | (simp; assumption)) ?_
          repeat (first | refine g_endt ?_ | refine g_end ?_ | refine g_then ?_ | refine g_in_normal ?_ | refine g_then_ret ?_ | refine g_in_ret ?_ | refine g_then_exit ?_ | refine g_in_exit rfl ?_ | refine g_in_exit_ne (by decide) ?_ | refine g_seq ?_ | refine g_region ?_ | refine g_block ?_ | refine g_ret ?_ | refine g_return_n ?_ | refine g_exit ?_ | refine g_skip ?_)
          repeat (first | refine g_endt ?_ | refine g_end ?_ | refine g_then ?_ | refine g_in_normal ?_ | refine g_then_ret ?_ | refine g_in_ret ?_ | refine g_then_exit ?_ | refine g_in_exit rfl ?_ | refine g_in_exit_ne (by decide) ?_ | refine g_seq ?_ | refine g_region ?_ | refine g_block ?_ | refine g_ret ?_ | refine g_return_n ?_ | refine g_exit ?_ | refine g_skip ?_)
          refine g_hideR fun Q_ hQ_ => ?_
          refine o_move ?_
          refine o_move ?_
          refine o_len rfl rfl ?_
          refine o_sub (c := (C : Int) - (sumTo T lv (k + 1) : Int)) rfl rfl (by omega) (by omega) (by omega) ?_
          refine o_assign ?_
          refine g_end (G.imp (hQ_ .normal _) ?_)
          clear hQ_ Q_
          try refine g_then ?_
          repeat (first | refine g_endt ?_ | refine g_end ?_ | refine g_then ?_ | refine g_in_normal ?_ | refine g_then_ret ?_ | refine g_in_ret ?_ | refine g_then_exit ?_ | refine g_in_exit rfl ?_ | refine g_in_exit_ne (by decide) ?_ | refine g_seq ?_ | refine g_region ?_ | refine g_block ?_ | refine g_ret ?_ | refine g_return_n ?_ | refine g_exit ?_ | refine g_skip ?_)
          repeat (first | refine g_endt ?_ | refine g_end ?_ | refine g_then ?_ | refine g_in_normal ?_ | refine g_then_ret ?_ | refine g_in_ret ?_ | refine g_then_exit ?_ | refine g_in_exit rfl ?_ | refine g_in_exit_ne (by decide) ?_ | refine g_seq ?_ | refine g_region ?_ | refine g_block ?_ | refine g_ret ?_ | refine g_return_n ?_ | refine g_exit ?_ | refine g_skip ?_)
          refine g_hideR fun Q_ hQ_ => ?_
          refine o_move ?_
          refine o_add (c := k + 1) rfl rfl rfl (by omega) (by omega) ?_
          refine o_assign ?_
          refine g_end (G.imp (hQ_ .normal _) ?_)
          clear hQ_ Q_
          try refine g_then ?_
          repeat (first | refine g_endt ?_ | refine g_end ?_ | refine g_then ?_ | refine g_in_normal ?_ | refine g_then_ret ?_ | refine g_in_ret ?_ | refine g_then_exit ?_ | refine g_in_exit rfl ?_ | refine g_in_exit_ne (by decide) ?_ | refine g_seq ?_ | refine g_region ?_ | refine g_block ?_ | refine g_ret ?_ | refine g_return_n ?_ | refine g_exit ?_ | refine g_skip ?_)
          exact g_meets ⟨k + 1, by omega, by omega⟩ (by show (9 - (k + 1)).toNat < (9 - k).toNat; omega) (Sat.mem ⟨rfl, rfl, rfl, rfl, rfl, trivial⟩)
      · first | refine g_seq (g_cond_f rfl (by simpa using hk) ?_) | refine g_cond_f rfl (by simpa using hk) ?_
        rw [sumTo_last (show 9 ≤ k by omega), Int.sub_self]
        have hc0 : (cutN (cutD T lv) lv : Int) = 0 := by rw [cutN_cut]; rfl
        repeat (first | refine g_endt ?_ | refine g_end ?_ | refine g_then ?_ | refine g_in_normal ?_ | refine g_then_ret ?_ | refine g_in_ret ?_ | refine g_then_exit ?_ | refine g_in_exit rfl ?_ | refine g_in_exit_ne (by decide) ?_ | refine g_seq ?_ | refine g_region ?_ | refine g_block ?_ | refine g_ret ?_ | refine g_return_n ?_ | refine g_exit ?_ | refine g_skip ?_)
        refine g_hideR fun Q_ hQ_ => ?_
        refine o_move ?_
        refine o_eql rfl rfl ?_
        refine o_move ?_
        first | (refine o_want rfl rfl rfl rfl rfl ?_; refine o_move ?_) | refine o_unwanted rfl rfl rfl rfl rfl ?_ | refine o_undef rfl rfl rfl ?_
        first | (refine o_want rfl rfl rfl rfl rfl ?_; refine o_move ?_) | refine o_unwanted rfl rfl rfl rfl rfl ?_ | refine o_undef rfl rfl rfl ?_
        refine o_want rfl rfl rfl rfl rfl (o_call (CutK_spec e (cutD T lv) lv (fun j => Nat.le_trans ((hok.cut lv).len j) (by decide)) hc0) rfl rfl ?_)
        rintro _ _ ⟨rfl, rfl⟩
        first | (refine o_want rfl rfl rfl rfl rfl ?_; refine o_eql rfl rfl ?_) | refine o_unwanted rfl rfl rfl rfl rfl ?_ | refine o_undef rfl rfl rfl ?_
        first | refine o_pick_t rfl rfl ?_ | refine o_pick_f rfl rfl ?_
        refine o_move ?_
        refine o_want rfl rfl rfl rfl rfl (o_call (wakes20_spec) rfl rfl ?_)
        rintro _ _ ⟨rfl, rfl⟩
        first | refine o_pick_t rfl rfl ?_ | refine o_pick_f rfl rfl ?_
        refine o_assign ?_
        refine g_end (G.imp (hQ_ .normal _) ?_)
        clear hQ_ Q_
        try refine g_then ?_
        repeat (first | refine g_endt ?_ | refine g_end ?_ | refine g_then ?_ | refine g_in_normal ?_ | refine g_then_ret ?_ | refine g_in_ret ?_ | refine g_then_exit ?_ | refine g_in_exit rfl ?_ | refine g_in_exit_ne (by decide) ?_ | refine g_seq ?_ | refine g_region ?_ | refine g_block ?_ | refine g_ret ?_ | refine g_return_n ?_ | refine g_exit ?_ | refine g_skip ?_)
        exact ret1 (K := []) rfl (resT (v := .bool true) rfl) ⟨rfl, rfl⟩
end Go.Proofs.Yteokgobeafnpoaa
/- In what order tags are told: the walk. -/
namespace Go.Proofs.Yteokgobeafnpoaa
open Go Go.Sl
attribute [local irreducible] Exit.then Exit.inBlock Code.wpIn roundPost bodyPostM runL Ret Meets MeetsD Begin

theorem mem_foldN {l a : List NumD} {z : NumD} : z ∈ l.foldl (insC NumD.cmp) a ↔ z ∈ a ∨ z ∈ l := by
  rw [← hasC_num, hasC_fold linNum, Bool.or_eq_true, hasC_num, hasC_num]
theorem mem_addD {T : DpT} {k j : Int} {l : List NumD} {z : NumD} : z ∈ addD T k l j ↔ z ∈ T j ∨ (j = k ∧ lvl k = true ∧ z ∈ l) := by
  unfold addD
  split
  · rename_i h
    obtain ⟨rfl, h2⟩ := h
    rw [mem_foldN]; simp [h2]
  · rename_i h
    constructor
    · exact .inl
    · rintro (h1 | ⟨h1, h2, _⟩)
      · exact h1
      · exact absurd ⟨h1, h2⟩ h
theorem addD_drop {T : DpT} (hs : ∀ j, Srt NumD.cmp (T j)) (k : Int) (l : List NumD) (m : Nat) : addD (addD T k (l.drop m)) k l = addD T k l := by
  have hsr : ∀ (U : DpT), (∀ j, Srt NumD.cmp (U j)) → ∀ (l : List NumD) (j : Int), Srt NumD.cmp (addD U k l j) := fun U hU l j => by
    unfold addD; split
    · exact fold_srt l _ (hU k)
    · exact hU j
  funext j
  refine (hsr _ (hsr _ hs _) l j).ext linNum (hsr _ hs l j) fun z => ?_
  rw [mem_addD, mem_addD, mem_addD]
  constructor
  · rintro ((h | ⟨h1, h2, h3⟩) | h)
    · exact .inl h
    · exact .inr ⟨h1, h2, List.mem_of_mem_drop h3⟩
    · exact .inr h
  · rintro (h | h)
    · exact .inl (.inl h)
    · exact .inr h
theorem mem_allF {z : NumD} {j : Int} : ∀ (ys : List DaD) (T : DpT), z ∈ ys.foldl (fun T q => addD T q.n q.tags) T j ↔ z ∈ T j ∨ ∃ q ∈ ys, j = q.n ∧ lvl q.n = true ∧ z ∈ q.tags
  | [], T => by simp
  | q :: ys, T => by
    rw [List.foldl_cons, mem_allF ys, mem_addD]
    simp only [List.mem_cons]
    constructor
    · rintro ((h | h) | ⟨x, hx, h⟩)
      · exact .inl h
      · exact .inr ⟨q, .inl rfl, h⟩
      · exact .inr ⟨x, .inr hx, h⟩
    · rintro (h | ⟨x, rfl | hx, h⟩)
      · exact .inl (.inl h)
      · exact .inl (.inr h)
      · exact .inr ⟨x, hx, h⟩
theorem allD_rev (ys : List DaD) : allD ys.reverse = allD ys := by
  have hs : ∀ (ys : List DaD) (j : Int), Srt NumD.cmp (allD ys j) := fun ys => by
    have : ∀ (ys : List DaD) (T : DpT), (∀ j, Srt NumD.cmp (T j)) → ∀ j, Srt NumD.cmp (ys.foldl (fun T q => addD T q.n q.tags) T j) := by
      intro ys
      induction ys with
      | nil => exact fun T h => h
      | cons q ys ih =>
        intro T h
        refine ih _ fun j => ?_
        show Srt NumD.cmp (addD T q.n q.tags j)
        unfold addD; split
        · exact fold_srt _ _ (h _)
        · exact h j
    exact this ys dp0 fun _ => Srt.nil
  funext j
  refine (hs _ j).ext linNum (hs _ j) fun z => ?_
  unfold allD
  rw [mem_allF, mem_allF]
  simp
theorem rev_at {α : Type} {ys : List α} {n i : Nat} (hl : ys.length = n) (hi : i < n) : ys.reverse[i]? = ys[n - 1 - i]? := by
  rw [List.getElem?_reverse (by omega), hl]
theorem AddF_spec (d : Nat) (T : DpT) (k : Int) (bo : Nat) (S : Option Addr) (n c : Nat) (zs : List Int) (hz : zs.length = n) (hn : n ≤ 1000) (hb : ∀ j, (T j).length ≤ 1000000) {b : Bool} {T' : DpT} (h1 : lvl k = b) (h2 : addD T k (zs.map NumD.mk) = T') :
    Ctr Try.prog 11 [.pointer (some ⟨d, 0, none⟩), .int .i64 k, .func (.func 31) #[] #[.pointer (some ⟨bo, 0, none⟩)]] [DepP d T, pblk bo (.cells #[.slice S n c] 23 (0, 0)), psl encI 1 S zs]
      (fun v M => v = .bool b ∧ M = [DepP d T', pblk bo (.cells #[.slice S n c] 23 (0, 0)), psl encI 1 S zs]) :=
  AddK_spec d T k 31 [.pointer (some ⟨bo, 0, none⟩)] zs (by omega) hb [pblk bo (.cells #[.slice S n c] 23 (0, 0)), psl encI 1 S zs] (fun K => Of1I_iter bo S n c zs hz (by omega) _) h1 h2
abbrev itOf (d b1 b2 : Nat) (k : Int) (T : DpT) : List SProp := [pD b1 d, pK b2 k, DepP d T]
theorem ListOf_spec (d b1 b2 : Nat) (k : Int) (T : DpT) (hb : ∀ j, (T j).length ≤ 2000) (ws : List NumD) (hw : T k = ws) : Ctr Try.prog 16 [.func (.func 34) #[] #[.pointer (some ⟨b1, 0, none⟩), .pointer (some ⟨b2, 0, none⟩)]] (itOf d b1 b2 k T)
    (fun v M => ∃ S c, v = .slice S ws.length c ∧ M = osl 3 encI 1 S c (ws.map NumD.n) :: itOf d b1 b2 k T) := by
  subst hw
  exact ListI_spec 34 [.pointer (some ⟨b1, 0, none⟩), .pointer (some ⟨b2, 0, none⟩)] ((T k).map NumD.n) (n := (T k).length) (by simp) (by have := hb k; omega) (itOf d b1 b2 k T) (fun K => Of1Dp_iter d b1 b2 T k (fun j => Nat.le_trans (hb j) (by decide)) _)
theorem keysT_len (T : DpT) : (keysT T).length ≤ 7 := List.length_filter_le _ _
theorem ListLv_spec (d b1 : Nat) (T : DpT) (ks : List Int) (hk : keysT T = ks) : Ctr Try.prog 16 [.func (.func 36) #[] #[.pointer (some ⟨b1, 0, none⟩)]] [pD b1 d, DepP d T]
    (fun v M => ∃ S c, v = .slice S ks.length c ∧ M = osl 3 encI 1 S c ks :: [pD b1 d, DepP d T]) := by
  subst hk
  exact ListI_spec 36 [.pointer (some ⟨b1, 0, none⟩)] (keysT T) rfl (by have := keysT_len T; omega) [pD b1 d, DepP d T] (fun K => Levels1Dp_iter d b1 T _)
set_option maxHeartbeats 2000000 in
theorem DepsOrders_spec (A : Option Addr) (n c : Nat) (ys : List DaD) (hl : ys.length = n) (hm : n ≤ 9223372036854775807) (hr : ∀ q ∈ ys, q.r.zs.length = q.r.len ∧ q.r.len ≤ 9223372036854775807) (hcap : ∀ q ∈ ys, q.r.len ≤ q.r.cap) (turn : Int) :
    Ctr Try.prog 5 [.slice A n c, .int .i64 turn] (daK A ys) (fun v M => v = .bool true ∧ M = []) := by
  refine spec_of Try.func5 rfl Try.ntmps5 rfl fun w0 F => ?_
  -- hide
  -- ponder/ponderlaw20.DepsOrders
  repeat (first | refine g_endt ?_ | refine g_end ?_ | refine g_then ?_ | refine g_in_normal ?_ | refine g_then_ret ?_ | refine g_in_ret ?_ | refine g_then_exit ?_ | refine g_in_exit rfl ?_ | refine g_in_exit_ne (by decide) ?_ | refine g_seq ?_ | refine g_region ?_ | refine g_block ?_ | refine g_ret ?_ | refine g_return_n ?_ | refine g_exit ?_ | refine g_skip ?_)
  refine g_hideR fun Q_ hQ_ => ?_
  refine o_assign ?_
  refine g_end (G.imp (hQ_ .normal _) ?_)
  clear hQ_ Q_
  try refine g_then ?_
  repeat (first | refine g_endt ?_ | refine g_end ?_ | refine g_then ?_ | refine g_in_normal ?_ | refine g_then_ret ?_ | refine g_in_ret ?_ | refine g_then_exit ?_ | refine g_in_exit rfl ?_ | refine g_in_exit_ne (by decide) ?_ | refine g_seq ?_ | refine g_region ?_ | refine g_block ?_ | refine g_ret ?_ | refine g_return_n ?_ | refine g_exit ?_ | refine g_skip ?_)
  refine g_hideR fun Q_ hQ_ => ?_
  refine o_call (NewDp_spec) rfl rfl ?_
  rintro _ _ ⟨d, rfl, rfl⟩
  refine o_call (NewDp_spec) rfl rfl ?_
  rintro _ _ ⟨e, rfl, rfl⟩
  refine o_assign ?_
  refine o_assign ?_
  refine g_end (G.imp (hQ_ .normal _) ?_)
  clear hQ_ Q_
  try refine g_then ?_
  repeat (first | refine g_endt ?_ | refine g_end ?_ | refine g_then ?_ | refine g_in_normal ?_ | refine g_then_ret ?_ | refine g_in_ret ?_ | refine g_then_exit ?_ | refine g_in_exit rfl ?_ | refine g_in_exit_ne (by decide) ?_ | refine g_seq ?_ | refine g_region ?_ | refine g_block ?_ | refine g_ret ?_ | refine g_return_n ?_ | refine g_exit ?_ | refine g_skip ?_)
  refine g_hideR fun Q_ hQ_ => ?_
  refine o_move ?_
  refine o_peql rfl ?_
  refine o_move ?_
  first | (refine o_want rfl rfl rfl rfl rfl ?_; refine o_move ?_) | refine o_unwanted rfl rfl rfl rfl rfl ?_ | refine o_undef rfl rfl rfl ?_
  first | (refine o_want rfl rfl rfl rfl rfl ?_; refine o_peql rfl ?_) | refine o_unwanted rfl rfl rfl rfl rfl ?_ | refine o_undef rfl rfl rfl ?_
  first | refine o_pick_t rfl rfl ?_ | refine o_pick_f rfl rfl ?_
  refine g_end (G.imp (hQ_ .normal _) ?_)
  clear hQ_ Q_
  try refine g_then ?_
  first | refine g_seq (g_cond_f rfl (by first | rfl | (simp; done) | (simp; omega) | (simp; assumption)) ?_) | refine g_cond_f rfl (by first | rfl | (simp; done) | (simp; omega) | (simp; assumption)) ?_
  obtain ⟨hv, hhv⟩ : ∃ b, heavyD ys = b := ⟨_, rfl⟩
  repeat (first | refine g_endt ?_ | refine g_end ?_ | refine g_then ?_ | refine g_in_normal ?_ | refine g_then_ret ?_ | refine g_in_ret ?_ | refine g_then_exit ?_ | refine g_in_exit rfl ?_ | refine g_in_exit_ne (by decide) ?_ | refine g_seq ?_ | refine g_region ?_ | refine g_block ?_ | refine g_ret ?_ | refine g_return_n ?_ | refine g_exit ?_ | refine g_skip ?_)
  refine g_hideR fun Q_ hQ_ => ?_
  refine o_move ?_
  refine o_callp (heavyD_spec A n c ys hl hm hhv) rfl rfl ?_
  rintro _ _ ⟨rfl, rfl⟩
  refine g_end (G.imp (hQ_ .normal _) ?_)
  clear hQ_ Q_
  try refine g_then ?_
  cases hv with
  | true =>
    first | refine g_seq (g_cond_t rfl (by first | rfl | (simp; done) | (simp; omega) | (simp; assumption)) ?_) | refine g_cond_t rfl (by first | rfl | (simp; done) | (simp; omega) | (simp; assumption)) ?_
    repeat (first | refine g_endt ?_ | refine g_end ?_ | refine g_then ?_ | refine g_in_normal ?_ | refine g_then_ret ?_ | refine g_in_ret ?_ | refine g_then_exit ?_ | refine g_in_exit rfl ?_ | refine g_in_exit_ne (by decide) ?_ | refine g_seq ?_ | refine g_region ?_ | refine g_block ?_ | refine g_ret ?_ | refine g_return_n ?_ | refine g_exit ?_ | refine g_skip ?_)
    refine g_hideR fun Q_ hQ_ => ?_
    refine o_call (wakes20_spec) rfl rfl ?_
    rintro _ _ ⟨rfl, rfl⟩
    refine o_assign ?_
    refine g_end (G.imp (hQ_ .normal _) ?_)
    clear hQ_ Q_
    try refine g_then ?_
    repeat (first | refine g_endt ?_ | refine g_end ?_ | refine g_then ?_ | refine g_in_normal ?_ | refine g_then_ret ?_ | refine g_in_ret ?_ | refine g_then_exit ?_ | refine g_in_exit rfl ?_ | refine g_in_exit_ne (by decide) ?_ | refine g_seq ?_ | refine g_region ?_ | refine g_block ?_ | refine g_ret ?_ | refine g_return_n ?_ | refine g_exit ?_ | refine g_skip ?_)
    exact ret1 (K := []) rfl (resT (v := .bool true) rfl) ⟨rfl, rfl⟩
  | false =>
    obtain ⟨h60, h30⟩ := heavy_no hhv
    have htl := tags_len hr h30
    have htlr : ∀ q ∈ ys.reverse, q.tags.length ≤ 30 := fun q hq => htl q (List.mem_reverse.1 hq)
    first | refine g_seq (g_cond_f rfl (by first | rfl | (simp; done) | (simp; omega) | (simp; assumption)) ?_) | refine g_cond_f rfl (by first | rfl | (simp; done) | (simp; omega) | (simp; assumption)) ?_
    repeat (first | refine g_endt ?_ | refine g_end ?_ | refine g_then ?_ | refine g_in_normal ?_ | refine g_then_ret ?_ | refine g_in_ret ?_ | refine g_then_exit ?_ | refine g_in_exit rfl ?_ | refine g_in_exit_ne (by decide) ?_ | refine g_seq ?_ | refine g_region ?_ | refine g_block ?_ | refine g_ret ?_ | refine g_return_n ?_ | refine g_exit ?_ | refine g_skip ?_)
    refine g_hideR fun Q_ hQ_ => ?_
    refine o_assign ?_
    refine g_end (G.imp (hQ_ .normal _) ?_)
    clear hQ_ Q_
    try refine g_then ?_
    repeat (first | refine g_endt ?_ | refine g_end ?_ | refine g_then ?_ | refine g_in_normal ?_ | refine g_then_ret ?_ | refine g_in_ret ?_ | refine g_then_exit ?_ | refine g_in_exit rfl ?_ | refine g_in_exit_ne (by decide) ?_ | refine g_seq ?_ | refine g_region ?_ | refine g_block ?_ | refine g_ret ?_ | refine g_return_n ?_ | refine g_exit ?_ | refine g_skip ?_)
    refine g_loop (σ := {i : Nat // i ≤ n}) (S := fun i => [(0, .slice A n c), (1, .int .i64 turn), (5, .pointer (some ⟨d, 0, none⟩)), (6, .pointer (some ⟨e, 0, none⟩)), (7, .int .i64 (i.1 : Int))]) (H := fun i => DepP d (allD (ys.take i.1)) :: DepP e (allD (ys.reverse.take i.1)) :: daK A ys) (μ := fun i => n - i.1) (s0 := ⟨0, Nat.zero_le _⟩) (Sat.mem ⟨rfl, rfl, rfl, rfl, rfl, trivial⟩) (t := (inferInstance : Take _ (DepP d dp0 :: DepP e dp0 :: daK A ys) _)) ?_
    rintro ⟨i, hi⟩ ρ'
    dsimp only at hi ⊢
    repeat (first | refine g_endt ?_ | refine g_end ?_ | refine g_then ?_ | refine g_in_normal ?_ | refine g_then_ret ?_ | refine g_in_ret ?_ | refine g_then_exit ?_ | refine g_in_exit rfl ?_ | refine g_in_exit_ne (by decide) ?_ | refine g_seq ?_ | refine g_region ?_ | refine g_block ?_ | refine g_ret ?_ | refine g_return_n ?_ | refine g_exit ?_ | refine g_skip ?_)
    refine g_hideR fun Q_ hQ_ => ?_
    refine o_move ?_
    refine o_move ?_
    refine o_len rfl rfl ?_
    refine o_lss rfl rfl ?_
    refine g_end (G.imp (hQ_ .normal _) ?_)
    clear hQ_ Q_
    try refine g_then ?_
    by_cases hin : i < n
    · first | refine g_seq (g_cond_t rfl (by first | rfl | (simp; done) | (simp; omega) | (simp; assumption)) ?_) | refine g_cond_t rfl (by first | rfl | (simp; done) | (simp; omega) | (simp; assumption)) ?_
      obtain ⟨q, hq⟩ : ∃ q, ys[i]? = some q := ⟨_, List.getElem?_eq_getElem (by omega)⟩
      have hqm := List.mem_of_getElem? hq
      obtain ⟨hq1, _⟩ := hr q hqm
      have hq30 := h30 q hqm
      have hok := allD_take_ok (by omega) htl i
      have hT' : addD (allD (ys.take i)) q.n (q.r.zs.map NumD.mk) = allD (ys.take (i + 1)) := (allD_take hq).symm
      obtain ⟨p, hp⟩ : ∃ p, ys[n - 1 - i]? = some p := ⟨_, List.getElem?_eq_getElem (by omega)⟩
      have hpm := List.mem_of_getElem? hp
      obtain ⟨hp1, _⟩ := hr p hpm
      have hp30 := h30 p hpm
      have hpc := hcap p hpm
      have hokr := allD_take_ok (ys := ys.reverse) (by simp; omega) htlr i
      have hU' : addD (allD (ys.reverse.take i)) p.n (p.r.zs.map NumD.mk) = allD (ys.reverse.take (i + 1)) := (allD_take (ys := ys.reverse) ((rev_at hl hin).trans hp)).symm
      generalize allD (ys.take i) = T at hok hT' ⊢
      generalize allD (ys.reverse.take i) = U at hokr hU' ⊢
      refine G.rowG (enc := encI) (sz := 1) (rs := ys.map DaD.r) (r := q.r) (List.mem_map.2 ⟨q, hqm, rfl⟩) ?_
      repeat (first | refine g_endt ?_ | refine g_end ?_ | refine g_then ?_ | refine g_in_normal ?_ | refine g_then_ret ?_ | refine g_in_ret ?_ | refine g_then_exit ?_ | refine g_in_exit rfl ?_ | refine g_in_exit_ne (by decide) ?_ | refine g_seq ?_ | refine g_region ?_ | refine g_block ?_ | refine g_ret ?_ | refine g_return_n ?_ | refine g_exit ?_ | refine g_skip ?_)
      refine g_hide fun Q_ hQ_ => ?_
      refine g_draw [11,12] [0,1,2,3,4,5,6,7,8,9,10,11,12] [psl encDA 3 A ys] mixed rfl ?_
      refine ob_q rfl rfl ⟨_, fun X Q h => o_move (g_end (h _ _ ⟨rfl, rfl⟩)), ?_⟩
      refine ob_q rfl rfl ⟨_, fun X Q h => o_move (g_end (h _ _ ⟨rfl, rfl⟩)), ?_⟩
      refine ob_q rfl rfl ⟨_, fun X Q h => o_move (g_end (h _ _ ⟨rfl, rfl⟩)), ?_⟩
      refine ob_q rfl rfl ⟨_, fun X Q h => o_indexR (ys := ys) (i := i) rfl rfl rfl (by omega) hl rfl (g_end (h _ _ ⟨rfl, rfl⟩)), ?_⟩
      refine ob_q rfl rfl ⟨_, fun X Q h => o_fieldR rfl (by omega) (g_end (h _ _ ⟨rfl, rfl⟩)), ?_⟩
      refine ob_q rfl rfl ⟨_, fun X Q h => o_loadE1 (ys := ys) (v := .int .i64 q.n) rfl hq rfl (g_end (h _ _ ⟨rfl, rfl⟩)), ?_⟩
      refine ob_q rfl rfl ⟨_, fun X Q h => o_move (g_end (h _ _ ⟨rfl, rfl⟩)), ?_⟩
      refine ob_q rfl rfl ⟨_, fun X Q h => o_move (g_end (h _ _ ⟨rfl, rfl⟩)), ?_⟩
      refine ob_q rfl rfl ⟨_, fun X Q h => o_indexR (ys := ys) (i := i) rfl rfl rfl (by omega) hl rfl (g_end (h _ _ ⟨rfl, rfl⟩)), ?_⟩
      refine ob_q rfl rfl ⟨_, fun X Q h => o_fieldR rfl (by omega) (g_end (h _ _ ⟨rfl, rfl⟩)), ?_⟩
      refine ob_q rfl rfl ⟨_, fun X Q h => o_loadE1 (ys := ys) (v := .slice q.r.a q.r.len q.r.cap) rfl hq rfl (g_end (h _ _ ⟨rfl, rfl⟩)), ?_⟩
      refine ob_l rfl rfl fun Qz hz => o_call (OfI_spec q.r.a q.r.len q.r.cap) rfl rfl ?_
      rintro _ _ ⟨bo, rfl, rfl⟩
      refine g_end (hz _ _ ⟨_, ob_fin, ?_⟩)
      clear hz Qz
      refine ob_l rfl rfl fun Qz hz => o_call (AddF_spec d T q.n bo q.r.a q.r.len q.r.cap q.r.zs hq1 (by omega) (fun j => Nat.le_trans (hok.len j) (by decide)) rfl hT') rfl rfl ?_
      rintro _ _ ⟨rfl, rfl⟩
      refine g_end (hz _ _ ⟨_, ob_fin, ?_⟩)
      clear hz Qz
      refine ob_nil ?_
      refine G.imp (hQ_ .normal _) ?_
      clear hQ_ Q_
      try refine g_then ?_
      repeat (first | refine g_endt ?_ | refine g_end ?_ | refine g_then ?_ | refine g_in_normal ?_ | refine g_then_ret ?_ | refine g_in_ret ?_ | refine g_then_exit ?_ | refine g_in_exit rfl ?_ | refine g_in_exit_ne (by decide) ?_ | refine g_seq ?_ | refine g_region ?_ | refine g_block ?_ | refine g_ret ?_ | refine g_return_n ?_ | refine g_exit ?_ | refine g_skip ?_)
      repeat (first | refine g_endt ?_ | refine g_end ?_ | refine g_then ?_ | refine g_in_normal ?_ | refine g_then_ret ?_ | refine g_in_ret ?_ | refine g_then_exit ?_ | refine g_in_exit rfl ?_ | refine g_in_exit_ne (by decide) ?_ | refine g_seq ?_ | refine g_region ?_ | refine g_block ?_ | refine g_ret ?_ | refine g_return_n ?_ | refine g_exit ?_ | refine g_skip ?_)
      refine g_hideR fun Q_ hQ_ => ?_
      refine o_move ?_
      refine o_len rfl rfl ?_
      refine o_sub (c := (n : Int) - 1) rfl rfl rfl (by omega) (by omega) ?_
      refine o_move ?_
      refine o_sub (c := ((n - 1 - i : Nat) : Int)) rfl rfl (by omega) (by omega) (by omega) ?_
      refine o_assign ?_
      refine g_end (G.imp (hQ_ .normal _) ?_)
      clear hQ_ Q_
      try refine g_then ?_
      repeat (first | refine g_endt ?_ | refine g_end ?_ | refine g_then ?_ | refine g_in_normal ?_ | refine g_then_ret ?_ | refine g_in_ret ?_ | refine g_then_exit ?_ | refine g_in_exit rfl ?_ | refine g_in_exit_ne (by decide) ?_ | refine g_seq ?_ | refine g_region ?_ | refine g_block ?_ | refine g_ret ?_ | refine g_return_n ?_ | refine g_exit ?_ | refine g_skip ?_)
      refine g_hideR fun Q_ hQ_ => ?_
      refine o_move ?_
      refine o_move ?_
      refine o_indexR (ys := ys) (i := n - 1 - i) rfl rfl rfl (by omega) hl rfl ?_
      refine o_fieldR rfl (by omega) ?_
      refine o_loadE1 (ys := ys) (v := .slice p.r.a p.r.len p.r.cap) rfl hp rfl ?_
      refine o_assign ?_
      refine g_end (G.imp (hQ_ .normal _) ?_)
      clear hQ_ Q_
      try refine g_then ?_
      obtain ⟨k, hk⟩ : ∃ k, (turn % ((p.r.len + 1 : Nat) : Int)).toNat = k := ⟨_, rfl⟩
      have hkl : k < p.r.len + 1 := hk ▸ within_lt turn (p.r.len + 1) (by omega)
      repeat (first | refine g_endt ?_ | refine g_end ?_ | refine g_then ?_ | refine g_in_normal ?_ | refine g_then_ret ?_ | refine g_in_ret ?_ | refine g_then_exit ?_ | refine g_in_exit rfl ?_ | refine g_in_exit_ne (by decide) ?_ | refine g_seq ?_ | refine g_region ?_ | refine g_block ?_ | refine g_ret ?_ | refine g_return_n ?_ | refine g_exit ?_ | refine g_skip ?_)
      refine g_hideR fun Q_ hQ_ => ?_
      refine o_move ?_
      refine o_move ?_
      refine o_len rfl rfl ?_
      refine o_add (c := ((p.r.len + 1 : Nat) : Int)) rfl rfl (by omega) (by omega) (by omega) ?_
      refine o_call (WithinQ_spec turn (p.r.len + 1) (by omega) (by omega) hk) rfl rfl ?_
      rintro _ _ ⟨rfl, rfl⟩
      refine o_assign ?_
      refine g_end (G.imp (hQ_ .normal _) ?_)
      clear hQ_ Q_
      try refine g_then ?_
      refine G.rowG (enc := encI) (sz := 1) (rs := ys.map DaD.r) (r := p.r) (List.mem_map.2 ⟨p, hpm, rfl⟩) ?_
      refine G.dropped (S := p.r.a) (xs := p.r.zs) (enc := encI) (sz := 1) p.r.cap k (by omega) ?_
      have hdl : (p.r.zs.drop k).length = p.r.len - k := by simp; omega
      have hmid : addD (addD U p.n ((p.r.zs.drop k).map NumD.mk)) p.n (p.r.zs.map NumD.mk) = allD (ys.reverse.take (i + 1)) := by
        rw [← hU', List.map_drop]; exact addD_drop hokr.srt _ _ _
      have hok2 := hokr.add p.n (l := (p.r.zs.drop k).map NumD.mk) (by rw [List.length_map, hdl]; omega)
      repeat (first | refine g_endt ?_ | refine g_end ?_ | refine g_then ?_ | refine g_in_normal ?_ | refine g_then_ret ?_ | refine g_in_ret ?_ | refine g_then_exit ?_ | refine g_in_exit rfl ?_ | refine g_in_exit_ne (by decide) ?_ | refine g_seq ?_ | refine g_region ?_ | refine g_block ?_ | refine g_ret ?_ | refine g_return_n ?_ | refine g_exit ?_ | refine g_skip ?_)
      refine g_hide fun Q_ hQ_ => ?_
      refine g_draw [9,10] [0,1,2,3,4,5,6,7,8,9,10] [psl encDA 3 A ys] mixed rfl ?_
      refine ob_q rfl rfl ⟨_, fun X Q h => o_move (g_end (h _ _ ⟨rfl, rfl⟩)), ?_⟩
      refine ob_q rfl rfl ⟨_, fun X Q h => o_move (g_end (h _ _ ⟨rfl, rfl⟩)), ?_⟩
      refine ob_q rfl rfl ⟨_, fun X Q h => o_move (g_end (h _ _ ⟨rfl, rfl⟩)), ?_⟩
      refine ob_q rfl rfl ⟨_, fun X Q h => o_indexR (ys := ys) (i := n - 1 - i) rfl rfl rfl (by omega) hl rfl (g_end (h _ _ ⟨rfl, rfl⟩)), ?_⟩
      refine ob_q rfl rfl ⟨_, fun X Q h => o_fieldR rfl (by omega) (g_end (h _ _ ⟨rfl, rfl⟩)), ?_⟩
      refine ob_q rfl rfl ⟨_, fun X Q h => o_loadE1 (ys := ys) (v := .int .i64 p.n) rfl hp rfl (g_end (h _ _ ⟨rfl, rfl⟩)), ?_⟩
      refine ob_q rfl rfl ⟨_, fun X Q h => o_move (g_end (h _ _ ⟨rfl, rfl⟩)), ?_⟩
      refine ob_q rfl rfl ⟨_, fun X Q h => o_move (g_end (h _ _ ⟨rfl, rfl⟩)), ?_⟩
      refine ob_q rfl rfl ⟨_, fun X Q h => o_fromP (k := k) rfl rfl rfl (by omega) (g_end (h _ _ ⟨rfl, rfl⟩)), ?_⟩
      refine ob_l rfl rfl fun Qz hz => o_call (OfI_spec (offA p.r.a p.r.cap k 1) (p.r.len - k) (p.r.cap - k)) rfl rfl ?_
      rintro _ _ ⟨b2, rfl, rfl⟩
      refine g_end (hz _ _ ⟨_, ob_fin, ?_⟩)
      clear hz Qz
      refine ob_l rfl rfl fun Qz hz => o_call (AddF_spec e U p.n b2 (offA p.r.a p.r.cap k 1) (p.r.len - k) (p.r.cap - k) (p.r.zs.drop k) hdl (by omega) (fun j => Nat.le_trans (hokr.len j) (by decide)) rfl rfl) rfl rfl ?_
      rintro _ _ ⟨rfl, rfl⟩
      refine g_end (hz _ _ ⟨_, ob_fin, ?_⟩)
      clear hz Qz
      refine ob_nil ?_
      refine G.imp (hQ_ .normal _) ?_
      clear hQ_ Q_
      try refine g_then ?_
      refine G.rowG (enc := encI) (sz := 1) (rs := ys.map DaD.r) (r := p.r) (List.mem_map.2 ⟨p, hpm, rfl⟩) ?_
      generalize addD U p.n ((p.r.zs.drop k).map NumD.mk) = V at hmid hok2 ⊢
      repeat (first | refine g_endt ?_ | refine g_end ?_ | refine g_then ?_ | refine g_in_normal ?_ | refine g_then_ret ?_ | refine g_in_ret ?_ | refine g_then_exit ?_ | refine g_in_exit rfl ?_ | refine g_in_exit_ne (by decide) ?_ | refine g_seq ?_ | refine g_region ?_ | refine g_block ?_ | refine g_ret ?_ | refine g_return_n ?_ | refine g_exit ?_ | refine g_skip ?_)
      refine g_hide fun Q_ hQ_ => ?_
      refine g_draw [7,8] [0,1,2,3,4,5,6,7,8] [psl encDA 3 A ys] mixed rfl ?_
      refine ob_q rfl rfl ⟨_, fun X Q h => o_move (g_end (h _ _ ⟨rfl, rfl⟩)), ?_⟩
      refine ob_q rfl rfl ⟨_, fun X Q h => o_move (g_end (h _ _ ⟨rfl, rfl⟩)), ?_⟩
      refine ob_q rfl rfl ⟨_, fun X Q h => o_move (g_end (h _ _ ⟨rfl, rfl⟩)), ?_⟩
      refine ob_q rfl rfl ⟨_, fun X Q h => o_indexR (ys := ys) (i := n - 1 - i) rfl rfl rfl (by omega) hl rfl (g_end (h _ _ ⟨rfl, rfl⟩)), ?_⟩
      refine ob_q rfl rfl ⟨_, fun X Q h => o_fieldR rfl (by omega) (g_end (h _ _ ⟨rfl, rfl⟩)), ?_⟩
      refine ob_q rfl rfl ⟨_, fun X Q h => o_loadE1 (ys := ys) (v := .int .i64 p.n) rfl hp rfl (g_end (h _ _ ⟨rfl, rfl⟩)), ?_⟩
      refine ob_q rfl rfl ⟨_, fun X Q h => o_move (g_end (h _ _ ⟨rfl, rfl⟩)), ?_⟩
      refine ob_l rfl rfl fun Qz hz => o_call (OfI_spec p.r.a p.r.len p.r.cap) rfl rfl ?_
      rintro _ _ ⟨b3, rfl, rfl⟩
      refine g_end (hz _ _ ⟨_, ob_fin, ?_⟩)
      clear hz Qz
      refine ob_l rfl rfl fun Qz hz => o_call (AddF_spec e V p.n b3 p.r.a p.r.len p.r.cap p.r.zs hp1 (by omega) (fun j => Nat.le_trans (hok2.len j) (by decide)) rfl hmid) rfl rfl ?_
      rintro _ _ ⟨rfl, rfl⟩
      refine g_end (hz _ _ ⟨_, ob_fin, ?_⟩)
      clear hz Qz
      refine ob_nil ?_
      refine G.imp (hQ_ .normal _) ?_
      clear hQ_ Q_
      try refine g_then ?_
      repeat (first | refine g_endt ?_ | refine g_end ?_ | refine g_then ?_ | refine g_in_normal ?_ | refine g_then_ret ?_ | refine g_in_ret ?_ | refine g_then_exit ?_ | refine g_in_exit rfl ?_ | refine g_in_exit_ne (by decide) ?_ | refine g_seq ?_ | refine g_region ?_ | refine g_block ?_ | refine g_ret ?_ | refine g_return_n ?_ | refine g_exit ?_ | refine g_skip ?_)
      repeat (first | refine g_endt ?_ | refine g_end ?_ | refine g_then ?_ | refine g_in_normal ?_ | refine g_then_ret ?_ | refine g_in_ret ?_ | refine g_then_exit ?_ | refine g_in_exit rfl ?_ | refine g_in_exit_ne (by decide) ?_ | refine g_seq ?_ | refine g_region ?_ | refine g_block ?_ | refine g_ret ?_ | refine g_return_n ?_ | refine g_exit ?_ | refine g_skip ?_)
      refine g_hideR fun Q_ hQ_ => ?_
      refine o_move ?_
      refine o_add (c := ((i + 1 : Nat) : Int)) rfl rfl (by omega) (by omega) (by omega) ?_
      refine o_assign ?_
      refine g_end (G.imp (hQ_ .normal _) ?_)
      clear hQ_ Q_
      try refine g_then ?_
      repeat (first | refine g_endt ?_ | refine g_end ?_ | refine g_then ?_ | refine g_in_normal ?_ | refine g_then_ret ?_ | refine g_in_ret ?_ | refine g_then_exit ?_ | refine g_in_exit rfl ?_ | refine g_in_exit_ne (by decide) ?_ | refine g_seq ?_ | refine g_region ?_ | refine g_block ?_ | refine g_ret ?_ | refine g_return_n ?_ | refine g_exit ?_ | refine g_skip ?_)
      exact g_meets ⟨i + 1, hin⟩ (by show n - (i + 1) < n - i; omega) (Sat.mem ⟨rfl, rfl, rfl, rfl, rfl, trivial⟩)
    · first | refine g_seq (g_cond_f rfl (by simp; omega) ?_) | refine g_cond_f rfl (by simp; omega) ?_
      rw [List.take_of_length_le (by omega), List.take_of_length_le (by simp; omega), allD_rev]
      have hok : OkT (allD ys) 1800 := by have := allD_take_ok (by omega) htl n; rwa [List.take_of_length_le (by omega)] at this
      generalize allD ys = T at hok ⊢
      have hb : ∀ j, (T j).length ≤ 2000 := fun j => Nat.le_trans (hok.len j) (by decide)
      repeat (first | refine g_endt ?_ | refine g_end ?_ | refine g_then ?_ | refine g_in_normal ?_ | refine g_then_ret ?_ | refine g_in_ret ?_ | refine g_then_exit ?_ | refine g_in_exit rfl ?_ | refine g_in_exit_ne (by decide) ?_ | refine g_seq ?_ | refine g_region ?_ | refine g_block ?_ | refine g_ret ?_ | refine g_return_n ?_ | refine g_exit ?_ | refine g_skip ?_)
      refine g_hideR fun Q_ hQ_ => ?_
      refine o_assign ?_
      refine g_end (G.imp (hQ_ .normal _) ?_)
      clear hQ_ Q_
      try refine g_then ?_
      repeat (first | refine g_endt ?_ | refine g_end ?_ | refine g_then ?_ | refine g_in_normal ?_ | refine g_then_ret ?_ | refine g_in_ret ?_ | refine g_then_exit ?_ | refine g_in_exit rfl ?_ | refine g_in_exit_ne (by decide) ?_ | refine g_seq ?_ | refine g_region ?_ | refine g_block ?_ | refine g_ret ?_ | refine g_return_n ?_ | refine g_exit ?_ | refine g_skip ?_)
      refine g_loop (σ := {k : Nat // k ≤ 9}) (S := fun k => [(5, .pointer (some ⟨d, 0, none⟩)), (6, .pointer (some ⟨e, 0, none⟩)), (11, .int .i64 (k.1 : Int))]) (H := fun _ => [DepP d T, DepP e T]) (μ := fun k => 9 - k.1) (s0 := ⟨0, by omega⟩) (Sat.mem ⟨rfl, rfl, rfl, trivial⟩) ?_
      rintro ⟨k, hk9⟩ ρ2
      dsimp only at hk9 ⊢
      repeat (first | refine g_endt ?_ | refine g_end ?_ | refine g_then ?_ | refine g_in_normal ?_ | refine g_then_ret ?_ | refine g_in_ret ?_ | refine g_then_exit ?_ | refine g_in_exit rfl ?_ | refine g_in_exit_ne (by decide) ?_ | refine g_seq ?_ | refine g_region ?_ | refine g_block ?_ | refine g_ret ?_ | refine g_return_n ?_ | refine g_exit ?_ | refine g_skip ?_)
      refine g_hideR fun Q_ hQ_ => ?_
      refine o_move ?_
      refine o_leq rfl rfl ?_
      refine g_end (G.imp (hQ_ .normal _) ?_)
      clear hQ_ Q_
      try refine g_then ?_
      by_cases hk : k ≤ 8
      · first | refine g_seq (g_cond_t rfl (by simp; omega) ?_) | refine g_cond_t rfl (by simp; omega) ?_
        obtain ⟨ws, hws⟩ : ∃ ws, T (k : Int) = ws := ⟨_, rfl⟩
        have hwl : ws.length ≤ 1800 := by rw [← hws]; exact hok.len k
        repeat (first | refine g_endt ?_ | refine g_end ?_ | refine g_then ?_ | refine g_in_normal ?_ | refine g_then_ret ?_ | refine g_in_ret ?_ | refine g_then_exit ?_ | refine g_in_exit rfl ?_ | refine g_in_exit_ne (by decide) ?_ | refine g_seq ?_ | refine g_region ?_ | refine g_block ?_ | refine g_ret ?_ | refine g_return_n ?_ | refine g_exit ?_ | refine g_skip ?_)
        repeat (first | refine g_endt ?_ | refine g_end ?_ | refine g_then ?_ | refine g_in_normal ?_ | refine g_then_ret ?_ | refine g_in_ret ?_ | refine g_then_exit ?_ | refine g_in_exit rfl ?_ | refine g_in_exit_ne (by decide) ?_ | refine g_seq ?_ | refine g_region ?_ | refine g_block ?_ | refine g_ret ?_ | refine g_return_n ?_ | refine g_exit ?_ | refine g_skip ?_)
        refine g_hideR fun Q_ hQ_ => ?_
        refine o_move ?_
        refine o_move ?_
        refine o_call (OfDp_spec d k) rfl rfl ?_
        rintro _ _ ⟨b1, b2, rfl, rfl⟩
        refine o_call (ListOf_spec d b1 b2 k T hb ws hws) rfl rfl ?_
        rintro _ _ ⟨S1, e1, rfl, rfl⟩
        refine G.bring [osl 3 encI 1 S1 e1 (ws.map NumD.n)] (G.frz ?_)
        refine o_move ?_
        refine o_move ?_
        refine o_call (OfDp_spec e k) rfl rfl ?_
        rintro _ _ ⟨b3, b4, rfl, rfl⟩
        refine o_call (ListOf_spec e b3 b4 k T hb ws hws) rfl rfl ?_
        rintro _ _ ⟨S2, e2, rfl, rfl⟩
        refine G.bring [osl 3 encI 1 S2 e2 (ws.map NumD.n)] (G.frz ?_)
        refine o_callp (Ints_spec S1 S2 ws.length e1 e2 (ws.map NumD.n) (by simp) (by omega)) rfl rfl ?_
        rintro _ _ ⟨rfl, rfl⟩
        refine o_not rfl ?_
        refine g_end (G.imp (hQ_ .normal _) ?_)
        clear hQ_ Q_
        try refine g_then ?_
        first | refine g_seq (g_cond_f rfl (by first | rfl | (simp; done) | (simp; omega) | (simp; assumption)) ?_) | refine g_cond_f rfl (by first | rfl | (simp; done) | (simp; omega) | (simp; assumption)) ?_
        repeat (first | refine g_endt ?_ | refine g_end ?_ | refine g_then ?_ | refine g_in_normal ?_ | refine g_then_ret ?_ | refine g_in_ret ?_ | refine g_then_exit ?_ | refine g_in_exit rfl ?_ | refine g_in_exit_ne (by decide) ?_ | refine g_seq ?_ | refine g_region ?_ | refine g_block ?_ | refine g_ret ?_ | refine g_return_n ?_ | refine g_exit ?_ | refine g_skip ?_)
        repeat (first | refine g_endt ?_ | refine g_end ?_ | refine g_then ?_ | refine g_in_normal ?_ | refine g_then_ret ?_ | refine g_in_ret ?_ | refine g_then_exit ?_ | refine g_in_exit rfl ?_ | refine g_in_exit_ne (by decide) ?_ | refine g_seq ?_ | refine g_region ?_ | refine g_block ?_ | refine g_ret ?_ | refine g_return_n ?_ | refine g_exit ?_ | refine g_skip ?_)
        refine g_hideR fun Q_ hQ_ => ?_
        refine o_move ?_
        refine o_add (c := ((k + 1 : Nat) : Int)) rfl rfl (by omega) (by omega) (by omega) ?_
        refine o_assign ?_
        refine g_end (G.imp (hQ_ .normal _) ?_)
        clear hQ_ Q_
        try refine g_then ?_
        repeat (first | refine g_endt ?_ | refine g_end ?_ | refine g_then ?_ | refine g_in_normal ?_ | refine g_then_ret ?_ | refine g_in_ret ?_ | refine g_then_exit ?_ | refine g_in_exit rfl ?_ | refine g_in_exit_ne (by decide) ?_ | refine g_seq ?_ | refine g_region ?_ | refine g_block ?_ | refine g_ret ?_ | refine g_return_n ?_ | refine g_exit ?_ | refine g_skip ?_)
        exact g_meets ⟨k + 1, by omega⟩ (by show 9 - (k + 1) < 9 - k; omega) (Sat.mem ⟨rfl, rfl, rfl, trivial⟩)
      · first | refine g_seq (g_cond_f rfl (by simp; omega) ?_) | refine g_cond_f rfl (by simp; omega) ?_
        obtain ⟨ks, hks⟩ : ∃ ks, keysT T = ks := ⟨_, rfl⟩
        have hkl : ks.length ≤ 7 := by rw [← hks]; exact keysT_len T
        repeat (first | refine g_endt ?_ | refine g_end ?_ | refine g_then ?_ | refine g_in_normal ?_ | refine g_then_ret ?_ | refine g_in_ret ?_ | refine g_then_exit ?_ | refine g_in_exit rfl ?_ | refine g_in_exit_ne (by decide) ?_ | refine g_seq ?_ | refine g_region ?_ | refine g_block ?_ | refine g_ret ?_ | refine g_return_n ?_ | refine g_exit ?_ | refine g_skip ?_)
        refine g_hideR fun Q_ hQ_ => ?_
        refine o_move ?_
        refine o_call (LevelsDp_spec d) rfl rfl ?_
        rintro _ _ ⟨b1, rfl, rfl⟩
        refine o_call (ListLv_spec d b1 T ks hks) rfl rfl ?_
        rintro _ _ ⟨S1, e1, rfl, rfl⟩
        refine G.bring [osl 3 encI 1 S1 e1 ks] (G.frz ?_)
        refine o_move ?_
        refine o_call (LevelsDp_spec e) rfl rfl ?_
        rintro _ _ ⟨b3, rfl, rfl⟩
        refine o_call (ListLv_spec e b3 T ks hks) rfl rfl ?_
        rintro _ _ ⟨S2, e2, rfl, rfl⟩
        refine G.bring [osl 3 encI 1 S2 e2 ks] (G.frz ?_)
        refine o_callp (Ints_spec S1 S2 ks.length e1 e2 ks rfl (by omega)) rfl rfl ?_
        rintro _ _ ⟨rfl, rfl⟩
        refine o_move ?_
        refine o_want rfl rfl rfl rfl rfl (o_call (wakes20_spec) rfl rfl ?_)
        rintro _ _ ⟨rfl, rfl⟩
        first | refine o_pick_t rfl rfl ?_ | refine o_pick_f rfl rfl ?_
        refine o_assign ?_
        refine g_end (G.imp (hQ_ .normal _) ?_)
        clear hQ_ Q_
        try refine g_then ?_
        repeat (first | refine g_endt ?_ | refine g_end ?_ | refine g_then ?_ | refine g_in_normal ?_ | refine g_then_ret ?_ | refine g_in_ret ?_ | refine g_then_exit ?_ | refine g_in_exit rfl ?_ | refine g_in_exit_ne (by decide) ?_ | refine g_seq ?_ | refine g_region ?_ | refine g_block ?_ | refine g_ret ?_ | refine g_return_n ?_ | refine g_exit ?_ | refine g_skip ?_)
        exact ret1 (K := []) rfl (resT (v := .bool true) rfl) ⟨rfl, rfl⟩
end Go.Proofs.Yteokgobeafnpoaa
/- A list copied. -/
namespace Go.Proofs.Yteokgobeafnpoaa
open Go Go.Sl
attribute [local irreducible] Code.wpIn roundPost bodyPostM runL Ret Meets Begin

theorem CopyI_spec (A : Option Addr) (len cap : Nat) (ys : List Int) (hl : ys.length = len) (hm : len ≤ 1000000) : Ctr Try.prog 15 [.slice A len cap] [psl encI 1 A ys]
    (fun v M => ∃ S c, v = .slice S len c ∧ M = [osl 3 encI 1 S c ys]) := by
  refine spec_of Try.func15 rfl Try.ntmps15 rfl fun w0 F => ?_
  repeat (first | refine g_endt ?_ | refine g_end ?_ | refine g_then ?_ | refine g_in_normal ?_ | refine g_then_ret ?_ | refine g_in_ret ?_ | refine g_then_exit ?_ | refine g_in_exit rfl ?_ | refine g_in_exit_ne (by decide) ?_ | refine g_seq ?_ | refine g_region ?_ | refine g_block ?_ | refine g_ret ?_ | refine g_return_n ?_ | refine g_exit ?_ | refine g_skip ?_)
  refine o_assign ?_
  first | refine g_endt ?_ | refine g_end ?_
  repeat (first | refine g_endt ?_ | refine g_end ?_ | refine g_then ?_ | refine g_in_normal ?_ | refine g_then_ret ?_ | refine g_in_ret ?_ | refine g_then_exit ?_ | refine g_in_exit rfl ?_ | refine g_in_exit_ne (by decide) ?_ | refine g_seq ?_ | refine g_region ?_ | refine g_block ?_ | refine g_ret ?_ | refine g_return_n ?_ | refine g_exit ?_ | refine g_skip ?_)
  refine o_move ?_
  refine G.nil_slice 3 encI 1 ?_
  refine o_append (xs := []) (ys := ys) rfl rfl rfl rfl hl (fun _ => .inr trivial) (by simp [maxLen]; omega) (by simp; omega) fun S c => ?_
  change G _ _ [osl 3 encI 1 S c ys, psl encI 1 A ys] _
  refine o_assign ?_
  first | refine g_endt ?_ | refine g_end ?_
  repeat (first | refine g_endt ?_ | refine g_end ?_ | refine g_then ?_ | refine g_in_normal ?_ | refine g_then_ret ?_ | refine g_in_ret ?_ | refine g_then_exit ?_ | refine g_in_exit rfl ?_ | refine g_in_exit_ne (by decide) ?_ | refine g_seq ?_ | refine g_region ?_ | refine g_block ?_ | refine g_ret ?_ | refine g_return_n ?_ | refine g_exit ?_ | refine g_skip ?_)
  exact ret1 rfl (resT (v := .slice S (0 + ys.length) c) rfl) ⟨S, c, by rw [Nat.zero_add, hl], rfl⟩
end Go.Proofs.Yteokgobeafnpoaa
