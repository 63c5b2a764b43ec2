/- Parts of a proof, in order. -/
import Derived.Test.YtkglmhgehccmoaaZC4

set_option linter.unusedSimpArgs false
set_option linter.unusedVariables false
/- The document's order of matches. -/
namespace Go.Proofs.Ytkglmhgehccmoaa
open Go Go.Sl
attribute [local irreducible] Exit.then Exit.inBlock Code.wpIn roundPost bodyPostM runL Ret Meets MeetsD Begin

def ROk (q : RowG Int) : Prop := q.zs.length = q.len ∧ q.len ≤ 4611686018427387904
theorem cmpI_lt {a b : Int} (h : a ≠ b) : decide (a < b) = decide (cmpI a b < 0) := by
  unfold cmpI
  by_cases h1 : a < b
  · rw [if_pos h1]; simp [h1]
  · rw [if_neg h1, if_pos (by omega)]; simp [h1]
set_option maxHeartbeats 1000000 in
theorem Less_spec (A B : Option Addr) (la ca lb cb : Nat) (xs ys : List Int) (ha : xs.length = la) (hb : ys.length = lb) (ma : la ≤ 4611686018427387904) (mb : lb ≤ 4611686018427387904) {v0 : Bool} (hv : decide (cmpT xs ys < 0) = v0) :
    Ctr Try.prog 55 [.slice A la ca, .slice B lb cb] [psl encI 1 A xs, psl encI 1 B ys] (fun v M => v = .bool v0 ∧ M = []) := by
  refine spec_of Try.func55 rfl Try.ntmps55 rfl fun w0 F => ?_
  -- hide
  -- ponder/ponderref09.Less
  repeat (first | refine g_endt ?_ | refine g_end ?_ | refine g_then ?_ | refine g_in_normal ?_ | refine g_then_ret ?_ | refine g_in_ret ?_ | refine g_then_exit ?_ | refine g_in_exit rfl ?_ | refine g_in_exit_ne (by decide) ?_ | refine g_seq ?_ | refine g_region ?_ | refine g_block ?_ | refine g_ret ?_ | refine g_return_n ?_ | refine g_exit ?_ | refine g_skip ?_)
  refine g_hideR fun Q_ hQ_ => ?_
  refine o_assign ?_
  refine g_end (G.imp (hQ_ .normal _) ?_)
  clear hQ_ Q_
  try refine g_then ?_
  repeat (first | refine g_endt ?_ | refine g_end ?_ | refine g_then ?_ | refine g_in_normal ?_ | refine g_then_ret ?_ | refine g_in_ret ?_ | refine g_then_exit ?_ | refine g_in_exit rfl ?_ | refine g_in_exit_ne (by decide) ?_ | refine g_seq ?_ | refine g_region ?_ | refine g_block ?_ | refine g_ret ?_ | refine g_return_n ?_ | refine g_exit ?_ | refine g_skip ?_)
  refine g_hideR fun Q_ hQ_ => ?_
  refine o_assign ?_
  refine g_end (G.imp (hQ_ .normal _) ?_)
  clear hQ_ Q_
  try refine g_then ?_
  repeat (first | refine g_endt ?_ | refine g_end ?_ | refine g_then ?_ | refine g_in_normal ?_ | refine g_then_ret ?_ | refine g_in_ret ?_ | refine g_then_exit ?_ | refine g_in_exit rfl ?_ | refine g_in_exit_ne (by decide) ?_ | refine g_seq ?_ | refine g_region ?_ | refine g_block ?_ | refine g_ret ?_ | refine g_return_n ?_ | refine g_exit ?_ | refine g_skip ?_)
  refine g_loop (σ := {i : Nat // i ≤ la ∧ i ≤ lb ∧ cmpT xs ys = cmpT (xs.drop i) (ys.drop i)}) (S := fun i => [(0, .slice A la ca), (1, .slice B lb cb), (5, .int .i64 (i.1 : Int))]) (H := fun _ => [psl encI 1 A xs, psl encI 1 B ys]) (μ := fun i => la - i.1) (s0 := ⟨0, Nat.zero_le _, Nat.zero_le _, by rw [List.drop_zero, List.drop_zero]⟩) (Sat.mem ⟨rfl, rfl, rfl, trivial⟩) ?_
  rintro ⟨i, hi, hj, heq⟩ ρ'
  dsimp only at hi hj heq ⊢
  by_cases hia : i < la
  · by_cases hib : i < lb
    · skip
      repeat (first | refine g_endt ?_ | refine g_end ?_ | refine g_then ?_ | refine g_in_normal ?_ | refine g_then_ret ?_ | refine g_in_ret ?_ | refine g_then_exit ?_ | refine g_in_exit rfl ?_ | refine g_in_exit_ne (by decide) ?_ | refine g_seq ?_ | refine g_region ?_ | refine g_block ?_ | refine g_ret ?_ | refine g_return_n ?_ | refine g_exit ?_ | refine g_skip ?_)
      refine g_hideR fun Q_ hQ_ => ?_
      refine o_move ?_
      refine o_move ?_
      refine o_len rfl rfl ?_
      refine o_lssT (t := true) rfl rfl (decide_eq_true (by omega)) ?_
      refine o_move ?_
      first | (refine o_want rfl rfl rfl rfl rfl ?_; refine o_move ?_) | refine o_unwanted rfl rfl rfl rfl rfl ?_ | refine o_undef rfl rfl rfl ?_
      first | (refine o_want rfl rfl rfl rfl rfl ?_; refine o_move ?_) | refine o_unwanted rfl rfl rfl rfl rfl ?_ | refine o_undef rfl rfl rfl ?_
      first | (refine o_want rfl rfl rfl rfl rfl ?_; refine o_len rfl rfl ?_) | refine o_unwanted rfl rfl rfl rfl rfl ?_ | refine o_undef rfl rfl rfl ?_
      refine o_want rfl rfl rfl rfl rfl (o_lssT (t := true) rfl rfl (decide_eq_true (by omega)) ?_)
      first | refine o_pick_t rfl rfl ?_ | refine o_pick_f rfl rfl ?_
      refine g_end (G.imp (hQ_ .normal _) ?_)
      clear hQ_ Q_
      try refine g_then ?_
      first | refine g_seq (g_cond_t rfl (by first | rfl | (simp; done) | (simp; omega) | (simp; assumption)) ?_) | refine g_cond_t rfl (by first | rfl | (simp; done) | (simp; omega) | (simp; assumption)) ?_
      obtain ⟨x, hx⟩ : ∃ x, xs[i]? = some x := ⟨_, List.getElem?_eq_getElem (by omega)⟩
      obtain ⟨y, hy⟩ : ∃ y, ys[i]? = some y := ⟨_, List.getElem?_eq_getElem (by omega)⟩
      rw [drop_at hx, drop_at hy] at heq
      repeat (first | refine g_endt ?_ | refine g_end ?_ | refine g_then ?_ | refine g_in_normal ?_ | refine g_then_ret ?_ | refine g_in_ret ?_ | refine g_then_exit ?_ | refine g_in_exit rfl ?_ | refine g_in_exit_ne (by decide) ?_ | refine g_seq ?_ | refine g_region ?_ | refine g_block ?_ | refine g_ret ?_ | refine g_return_n ?_ | refine g_exit ?_ | refine g_skip ?_)
      by_cases hxy : x = y
      · skip
        repeat (first | refine g_endt ?_ | refine g_end ?_ | refine g_then ?_ | refine g_in_normal ?_ | refine g_then_ret ?_ | refine g_in_ret ?_ | refine g_then_exit ?_ | refine g_in_exit rfl ?_ | refine g_in_exit_ne (by decide) ?_ | refine g_seq ?_ | refine g_region ?_ | refine g_block ?_ | refine g_ret ?_ | refine g_return_n ?_ | refine g_exit ?_ | refine g_skip ?_)
        refine g_hide fun Q_ hQ_ => ?_
        refine g_draw [] [0,1,2,3,4,5,6,7,8] [psl encI 1 A xs, psl encI 1 B ys] mixed rfl ?_
        refine ob_q rfl rfl ⟨_, fun X Q h => o_move (g_end (h _ _ ⟨rfl, rfl⟩)), ?_⟩
        refine ob_q rfl rfl ⟨_, fun X Q h => o_move (g_end (h _ _ ⟨rfl, rfl⟩)), ?_⟩
        refine ob_q rfl rfl ⟨_, fun X Q h => o_indexR (ys := xs) (i := i) rfl rfl rfl (by omega) ha rfl (g_end (h _ _ ⟨rfl, rfl⟩)), ?_⟩
        refine ob_q rfl rfl ⟨_, fun X Q h => o_loadE0 (ys := xs) (v := .int .i64 x) rfl hx rfl (g_end (h _ _ ⟨rfl, rfl⟩)), ?_⟩
        refine ob_q rfl rfl ⟨_, fun X Q h => o_move (g_end (h _ _ ⟨rfl, rfl⟩)), ?_⟩
        refine ob_q rfl rfl ⟨_, fun X Q h => o_move (g_end (h _ _ ⟨rfl, rfl⟩)), ?_⟩
        refine ob_q rfl rfl ⟨_, fun X Q h => o_indexR (ys := ys) (i := i) rfl rfl rfl (by omega) hb rfl (g_end (h _ _ ⟨rfl, rfl⟩)), ?_⟩
        refine ob_q rfl rfl ⟨_, fun X Q h => o_loadE0 (ys := ys) (v := .int .i64 y) rfl hy rfl (g_end (h _ _ ⟨rfl, rfl⟩)), ?_⟩
        refine ob_q rfl rfl ⟨_, fun X Q h => o_neqT (t := false) rfl rfl (by rw [hxy]; simp) (g_end (h _ _ ⟨rfl, rfl⟩)), ?_⟩
        refine ob_nil ?_
        refine G.imp (hQ_ .normal _) ?_
        clear hQ_ Q_
        try refine g_then ?_
        first | refine g_seq (g_cond_f rfl (by first | rfl | (simp; done) | (simp; omega) | (simp; assumption)) ?_) | refine g_cond_f rfl (by first | rfl | (simp; done) | (simp; omega) | (simp; assumption)) ?_
        repeat (first | refine g_endt ?_ | refine g_end ?_ | refine g_then ?_ | refine g_in_normal ?_ | refine g_then_ret ?_ | refine g_in_ret ?_ | refine g_then_exit ?_ | refine g_in_exit rfl ?_ | refine g_in_exit_ne (by decide) ?_ | refine g_seq ?_ | refine g_region ?_ | refine g_block ?_ | refine g_ret ?_ | refine g_return_n ?_ | refine g_exit ?_ | refine g_skip ?_)
        repeat (first | refine g_endt ?_ | refine g_end ?_ | refine g_then ?_ | refine g_in_normal ?_ | refine g_then_ret ?_ | refine g_in_ret ?_ | refine g_then_exit ?_ | refine g_in_exit rfl ?_ | refine g_in_exit_ne (by decide) ?_ | refine g_seq ?_ | refine g_region ?_ | refine g_block ?_ | refine g_ret ?_ | refine g_return_n ?_ | refine g_exit ?_ | refine g_skip ?_)
        refine g_hideR fun Q_ hQ_ => ?_
        refine o_move ?_
        refine o_add (c := ((i + 1 : Nat) : Int)) rfl rfl (by omega) (by omega) (by omega) ?_
        refine o_assign ?_
        refine g_end (G.imp (hQ_ .normal _) ?_)
        clear hQ_ Q_
        try refine g_then ?_
        repeat (first | refine g_endt ?_ | refine g_end ?_ | refine g_then ?_ | refine g_in_normal ?_ | refine g_then_ret ?_ | refine g_in_ret ?_ | refine g_then_exit ?_ | refine g_in_exit rfl ?_ | refine g_in_exit_ne (by decide) ?_ | refine g_seq ?_ | refine g_region ?_ | refine g_block ?_ | refine g_ret ?_ | refine g_return_n ?_ | refine g_exit ?_ | refine g_skip ?_)
        have hn : cmpT (x :: xs.drop (i + 1)) (y :: ys.drop (i + 1)) = cmpT (xs.drop (i + 1)) (ys.drop (i + 1)) := by
          show (if cmpI x y = 0 then _ else _) = _
          rw [if_pos (by rw [hxy]; exact linI.refl y)]
        exact g_meets ⟨i + 1, hia, hib, heq.trans hn⟩ (by show la - (i + 1) < la - i; omega) (Sat.mem ⟨rfl, rfl, rfl, trivial⟩)
      · have hn : cmpT (x :: xs.drop (i + 1)) (y :: ys.drop (i + 1)) = cmpI x y := by
          show (if cmpI x y = 0 then _ else cmpI x y) = _
          rw [if_neg fun e => hxy (cmpI_zero e)]
        have hv2 : decide (x < y) = v0 := by rw [cmpI_lt hxy, ← hn, ← heq]; exact hv
        repeat (first | refine g_endt ?_ | refine g_end ?_ | refine g_then ?_ | refine g_in_normal ?_ | refine g_then_ret ?_ | refine g_in_ret ?_ | refine g_then_exit ?_ | refine g_in_exit rfl ?_ | refine g_in_exit_ne (by decide) ?_ | refine g_seq ?_ | refine g_region ?_ | refine g_block ?_ | refine g_ret ?_ | refine g_return_n ?_ | refine g_exit ?_ | refine g_skip ?_)
        refine g_hide fun Q_ hQ_ => ?_
        refine g_draw [] [0,1,2,3,4,5,6,7,8] [psl encI 1 A xs, psl encI 1 B ys] mixed rfl ?_
        refine ob_q rfl rfl ⟨_, fun X Q h => o_move (g_end (h _ _ ⟨rfl, rfl⟩)), ?_⟩
        refine ob_q rfl rfl ⟨_, fun X Q h => o_move (g_end (h _ _ ⟨rfl, rfl⟩)), ?_⟩
        refine ob_q rfl rfl ⟨_, fun X Q h => o_indexR (ys := xs) (i := i) rfl rfl rfl (by omega) ha rfl (g_end (h _ _ ⟨rfl, rfl⟩)), ?_⟩
        refine ob_q rfl rfl ⟨_, fun X Q h => o_loadE0 (ys := xs) (v := .int .i64 x) rfl hx rfl (g_end (h _ _ ⟨rfl, rfl⟩)), ?_⟩
        refine ob_q rfl rfl ⟨_, fun X Q h => o_move (g_end (h _ _ ⟨rfl, rfl⟩)), ?_⟩
        refine ob_q rfl rfl ⟨_, fun X Q h => o_move (g_end (h _ _ ⟨rfl, rfl⟩)), ?_⟩
        refine ob_q rfl rfl ⟨_, fun X Q h => o_indexR (ys := ys) (i := i) rfl rfl rfl (by omega) hb rfl (g_end (h _ _ ⟨rfl, rfl⟩)), ?_⟩
        refine ob_q rfl rfl ⟨_, fun X Q h => o_loadE0 (ys := ys) (v := .int .i64 y) rfl hy rfl (g_end (h _ _ ⟨rfl, rfl⟩)), ?_⟩
        refine ob_q rfl rfl ⟨_, fun X Q h => o_neqT (t := true) rfl rfl (by simpa using hxy) (g_end (h _ _ ⟨rfl, rfl⟩)), ?_⟩
        refine ob_nil ?_
        refine G.imp (hQ_ .normal _) ?_
        clear hQ_ Q_
        try refine g_then ?_
        first | refine g_seq (g_cond_t rfl (by first | rfl | (simp; done) | (simp; omega) | (simp; assumption)) ?_) | refine g_cond_t rfl (by first | rfl | (simp; done) | (simp; omega) | (simp; assumption)) ?_
        repeat (first | refine g_endt ?_ | refine g_end ?_ | refine g_then ?_ | refine g_in_normal ?_ | refine g_then_ret ?_ | refine g_in_ret ?_ | refine g_then_exit ?_ | refine g_in_exit rfl ?_ | refine g_in_exit_ne (by decide) ?_ | refine g_seq ?_ | refine g_region ?_ | refine g_block ?_ | refine g_ret ?_ | refine g_return_n ?_ | refine g_exit ?_ | refine g_skip ?_)
        refine g_hide fun Q_ hQ_ => ?_
        refine g_draw [] [0,1,2,3,4,5,6,7,8,9] [psl encI 1 A xs, psl encI 1 B ys] mixed rfl ?_
        refine ob_q rfl rfl ⟨_, fun X Q h => o_move (g_end (h _ _ ⟨rfl, rfl⟩)), ?_⟩
        refine ob_q rfl rfl ⟨_, fun X Q h => o_move (g_end (h _ _ ⟨rfl, rfl⟩)), ?_⟩
        refine ob_q rfl rfl ⟨_, fun X Q h => o_indexR (ys := xs) (i := i) rfl rfl rfl (by omega) ha rfl (g_end (h _ _ ⟨rfl, rfl⟩)), ?_⟩
        refine ob_q rfl rfl ⟨_, fun X Q h => o_loadE0 (ys := xs) (v := .int .i64 x) rfl hx rfl (g_end (h _ _ ⟨rfl, rfl⟩)), ?_⟩
        refine ob_q rfl rfl ⟨_, fun X Q h => o_move (g_end (h _ _ ⟨rfl, rfl⟩)), ?_⟩
        refine ob_q rfl rfl ⟨_, fun X Q h => o_move (g_end (h _ _ ⟨rfl, rfl⟩)), ?_⟩
        refine ob_q rfl rfl ⟨_, fun X Q h => o_indexR (ys := ys) (i := i) rfl rfl rfl (by omega) hb rfl (g_end (h _ _ ⟨rfl, rfl⟩)), ?_⟩
        refine ob_q rfl rfl ⟨_, fun X Q h => o_loadE0 (ys := ys) (v := .int .i64 y) rfl hy rfl (g_end (h _ _ ⟨rfl, rfl⟩)), ?_⟩
        refine ob_q rfl rfl ⟨_, fun X Q h => o_lssT (t := v0) rfl rfl hv2 (g_end (h _ _ ⟨rfl, rfl⟩)), ?_⟩
        refine ob_q rfl rfl ⟨_, fun X Q h => o_assign (g_end (h _ _ ⟨rfl, rfl⟩)), ?_⟩
        refine ob_nil ?_
        refine G.imp (hQ_ .normal _) ?_
        clear hQ_ Q_
        try refine g_then ?_
        repeat (first | refine g_endt ?_ | refine g_end ?_ | refine g_then ?_ | refine g_in_normal ?_ | refine g_then_ret ?_ | refine g_in_ret ?_ | refine g_then_exit ?_ | refine g_in_exit rfl ?_ | refine g_in_exit_ne (by decide) ?_ | refine g_seq ?_ | refine g_region ?_ | refine g_block ?_ | refine g_ret ?_ | refine g_return_n ?_ | refine g_exit ?_ | refine g_skip ?_)
        exact ret1 (K := []) rfl (resT (v := .bool v0) rfl) ⟨rfl, rfl⟩
    · skip
      repeat (first | refine g_endt ?_ | refine g_end ?_ | refine g_then ?_ | refine g_in_normal ?_ | refine g_then_ret ?_ | refine g_in_ret ?_ | refine g_then_exit ?_ | refine g_in_exit rfl ?_ | refine g_in_exit_ne (by decide) ?_ | refine g_seq ?_ | refine g_region ?_ | refine g_block ?_ | refine g_ret ?_ | refine g_return_n ?_ | refine g_exit ?_ | refine g_skip ?_)
      refine g_hideR fun Q_ hQ_ => ?_
      refine o_move ?_
      refine o_move ?_
      refine o_len rfl rfl ?_
      refine o_lssT (t := true) rfl rfl (decide_eq_true (by omega)) ?_
      refine o_move ?_
      first | (refine o_want rfl rfl rfl rfl rfl ?_; refine o_move ?_) | refine o_unwanted rfl rfl rfl rfl rfl ?_ | refine o_undef rfl rfl rfl ?_
      first | (refine o_want rfl rfl rfl rfl rfl ?_; refine o_move ?_) | refine o_unwanted rfl rfl rfl rfl rfl ?_ | refine o_undef rfl rfl rfl ?_
      first | (refine o_want rfl rfl rfl rfl rfl ?_; refine o_len rfl rfl ?_) | refine o_unwanted rfl rfl rfl rfl rfl ?_ | refine o_undef rfl rfl rfl ?_
      refine o_want rfl rfl rfl rfl rfl (o_lssT (t := false) rfl rfl (decide_eq_false (by omega)) ?_)
      first | refine o_pick_t rfl rfl ?_ | refine o_pick_f rfl rfl ?_
      refine g_end (G.imp (hQ_ .normal _) ?_)
      clear hQ_ Q_
      try refine g_then ?_
      first | refine g_seq (g_cond_f rfl (by first | rfl | (simp; done) | (simp; omega) | (simp; assumption)) ?_) | refine g_cond_f rfl (by first | rfl | (simp; done) | (simp; omega) | (simp; assumption)) ?_
      repeat (first | refine g_endt ?_ | refine g_end ?_ | refine g_then ?_ | refine g_in_normal ?_ | refine g_then_ret ?_ | refine g_in_ret ?_ | refine g_then_exit ?_ | refine g_in_exit rfl ?_ | refine g_in_exit_ne (by decide) ?_ | refine g_seq ?_ | refine g_region ?_ | refine g_block ?_ | refine g_ret ?_ | refine g_return_n ?_ | refine g_exit ?_ | refine g_skip ?_)
      repeat (first | refine g_endt ?_ | refine g_end ?_ | refine g_then ?_ | refine g_in_normal ?_ | refine g_then_ret ?_ | refine g_in_ret ?_ | refine g_then_exit ?_ | refine g_in_exit rfl ?_ | refine g_in_exit_ne (by decide) ?_ | refine g_seq ?_ | refine g_region ?_ | refine g_block ?_ | refine g_ret ?_ | refine g_return_n ?_ | refine g_exit ?_ | refine g_skip ?_)
      refine g_hideR fun Q_ hQ_ => ?_
      refine o_move ?_
      refine o_len rfl rfl ?_
      refine o_move ?_
      refine o_len rfl rfl ?_
      refine o_lssT (t := v0) rfl rfl (by rw [← hv, heq, cmpT_end (by omega) (by omega) (by omega)]; rw [Bool.eq_iff_iff, decide_eq_true_iff, decide_eq_true_iff]; omega) ?_
      refine o_assign ?_
      refine g_end (G.imp (hQ_ .normal _) ?_)
      clear hQ_ Q_
      try refine g_then ?_
      repeat (first | refine g_endt ?_ | refine g_end ?_ | refine g_then ?_ | refine g_in_normal ?_ | refine g_then_ret ?_ | refine g_in_ret ?_ | refine g_then_exit ?_ | refine g_in_exit rfl ?_ | refine g_in_exit_ne (by decide) ?_ | refine g_seq ?_ | refine g_region ?_ | refine g_block ?_ | refine g_ret ?_ | refine g_return_n ?_ | refine g_exit ?_ | refine g_skip ?_)
      exact ret1 (K := []) rfl (resT (v := .bool v0) rfl) ⟨rfl, rfl⟩
  · skip
    repeat (first | refine g_endt ?_ | refine g_end ?_ | refine g_then ?_ | refine g_in_normal ?_ | refine g_then_ret ?_ | refine g_in_ret ?_ | refine g_then_exit ?_ | refine g_in_exit rfl ?_ | refine g_in_exit_ne (by decide) ?_ | refine g_seq ?_ | refine g_region ?_ | refine g_block ?_ | refine g_ret ?_ | refine g_return_n ?_ | refine g_exit ?_ | refine g_skip ?_)
    refine g_hideR fun Q_ hQ_ => ?_
    refine o_move ?_
    refine o_move ?_
    refine o_len rfl rfl ?_
    refine o_lssT (t := false) rfl rfl (decide_eq_false (by omega)) ?_
    refine o_move ?_
    first | (refine o_want rfl rfl rfl rfl rfl ?_; refine o_move ?_) | refine o_unwanted rfl rfl rfl rfl rfl ?_ | refine o_undef rfl rfl rfl ?_
    first | (refine o_want rfl rfl rfl rfl rfl ?_; refine o_move ?_) | refine o_unwanted rfl rfl rfl rfl rfl ?_ | refine o_undef rfl rfl rfl ?_
    first | (refine o_want rfl rfl rfl rfl rfl ?_; refine o_len rfl rfl ?_) | refine o_unwanted rfl rfl rfl rfl rfl ?_ | refine o_undef rfl rfl rfl ?_
    first | refine o_unwanted rfl rfl rfl rfl rfl ?_ | refine o_undef rfl rfl rfl ?_
    first | refine o_pick_t rfl rfl ?_ | refine o_pick_f rfl rfl ?_
    refine g_end (G.imp (hQ_ .normal _) ?_)
    clear hQ_ Q_
    try refine g_then ?_
    first | refine g_seq (g_cond_f rfl (by first | rfl | (simp; done) | (simp; omega) | (simp; assumption)) ?_) | refine g_cond_f rfl (by first | rfl | (simp; done) | (simp; omega) | (simp; assumption)) ?_
    repeat (first | refine g_endt ?_ | refine g_end ?_ | refine g_then ?_ | refine g_in_normal ?_ | refine g_then_ret ?_ | refine g_in_ret ?_ | refine g_then_exit ?_ | refine g_in_exit rfl ?_ | refine g_in_exit_ne (by decide) ?_ | refine g_seq ?_ | refine g_region ?_ | refine g_block ?_ | refine g_ret ?_ | refine g_return_n ?_ | refine g_exit ?_ | refine g_skip ?_)
    repeat (first | refine g_endt ?_ | refine g_end ?_ | refine g_then ?_ | refine g_in_normal ?_ | refine g_then_ret ?_ | refine g_in_ret ?_ | refine g_then_exit ?_ | refine g_in_exit rfl ?_ | refine g_in_exit_ne (by decide) ?_ | refine g_seq ?_ | refine g_region ?_ | refine g_block ?_ | refine g_ret ?_ | refine g_return_n ?_ | refine g_exit ?_ | refine g_skip ?_)
    refine g_hideR fun Q_ hQ_ => ?_
    refine o_move ?_
    refine o_len rfl rfl ?_
    refine o_move ?_
    refine o_len rfl rfl ?_
    refine o_lssT (t := v0) rfl rfl (by rw [← hv, heq, cmpT_end (by omega) (by omega) (by omega)]; rw [Bool.eq_iff_iff, decide_eq_true_iff, decide_eq_true_iff]; omega) ?_
    refine o_assign ?_
    refine g_end (G.imp (hQ_ .normal _) ?_)
    clear hQ_ Q_
    try refine g_then ?_
    repeat (first | refine g_endt ?_ | refine g_end ?_ | refine g_then ?_ | refine g_in_normal ?_ | refine g_then_ret ?_ | refine g_in_ret ?_ | refine g_then_exit ?_ | refine g_in_exit rfl ?_ | refine g_in_exit_ne (by decide) ?_ | refine g_seq ?_ | refine g_region ?_ | refine g_block ?_ | refine g_ret ?_ | refine g_return_n ?_ | refine g_exit ?_ | refine g_skip ?_)
    exact ret1 (K := []) rfl (resT (v := .bool v0) rfl) ⟨rfl, rfl⟩
theorem cmpS_ne {a b : ByteArray} (h : ¬ a.toList = b.toList) : cmpS a b ≠ 0 := by
  intro e
  unfold cmpS at e
  by_cases h1 : Op.bytesLess a.toList b.toList = true
  · rw [if_pos h1] at e; cases e
  · rw [if_neg h1] at e
    by_cases h2 : Op.bytesLess b.toList a.toList = true
    · rw [if_pos h2] at e; cases e
    · exact h (less_total _ _ h1 h2)
theorem cmpS_lt {a b : ByteArray} (h : ¬ a.toList = b.toList) : Op.bytesLess a.toList b.toList = decide (cmpS a b < 0) := by
  unfold cmpS
  by_cases h1 : Op.bytesLess a.toList b.toList = true
  · rw [if_pos h1, h1]; rfl
  · rw [if_neg h1, Bool.eq_false_iff.2 h1]
    by_cases h2 : Op.bytesLess b.toList a.toList = true
    · rw [if_pos h2]; rfl
    · exact absurd (less_total _ _ h1 h2) h
theorem toList_inj' {a b : ByteArray} (h : a.toList = b.toList) : a = b := by
  rw [ByteArray.toList_eq, ByteArray.toList_eq] at h
  cases a; cases b
  simp only [ByteArray.mk.injEq]
  exact Array.toList_inj.1 h
theorem MatP.cmp_zero {a b : MatP} (h : a.cmp b = 0) : a = b := by
  change (if cmpS a.name b.name = 0 then cmpT a.tags b.tags else cmpS a.name b.name) = 0 at h
  by_cases e : a.name.toList = b.name.toList
  · have e2 := toList_inj' e
    rw [if_pos (by rw [e2]; exact linS.refl _)] at h
    cases a; cases b
    dsimp only at e2 h
    rw [e2, cmpT_zero h]
  · rw [if_neg (cmpS_ne e)] at h
    exact absurd h (cmpS_ne e)
theorem Before_spec (x y : MatD) (hx : ROk x.r) (hy : ROk y.r) {v0 : Bool} (hv : decide (x.pl.cmp y.pl < 0) = v0) : Ctr Try.prog 31 [x.val, y.val] [psl encI 1 x.r.a x.r.zs, psl encI 1 y.r.a y.r.zs] (fun v M => v = .bool v0 ∧ M = []) := by
  refine spec_of Try.func31 rfl Try.ntmps31 rfl fun w0 F => ?_
  -- hide
  -- ponder/ponderref09.Before
  repeat (first | refine g_endt ?_ | refine g_end ?_ | refine g_then ?_ | refine g_in_normal ?_ | refine g_then_ret ?_ | refine g_in_ret ?_ | refine g_then_exit ?_ | refine g_in_exit rfl ?_ | refine g_in_exit_ne (by decide) ?_ | refine g_seq ?_ | refine g_region ?_ | refine g_block ?_ | refine g_ret ?_ | refine g_return_n ?_ | refine g_exit ?_ | refine g_skip ?_)
  refine g_hideR fun Q_ hQ_ => ?_
  refine o_boxc x.val.cells rfl rfl fun c2 => ?_
  refine o_boxc y.val.cells rfl rfl fun c3 => ?_
  refine o_assign ?_
  refine g_end (G.imp (hQ_ .normal _) ?_)
  clear hQ_ Q_
  try refine g_then ?_
  by_cases hn : x.name.toList = y.name.toList
  · skip
    repeat (first | refine g_endt ?_ | refine g_end ?_ | refine g_then ?_ | refine g_in_normal ?_ | refine g_then_ret ?_ | refine g_in_ret ?_ | refine g_then_exit ?_ | refine g_in_exit rfl ?_ | refine g_in_exit_ne (by decide) ?_ | refine g_seq ?_ | refine g_region ?_ | refine g_block ?_ | refine g_ret ?_ | refine g_return_n ?_ | refine g_exit ?_ | refine g_skip ?_)
    refine g_hideR fun Q_ hQ_ => ?_
    first | refine o_field rfl ?_ | refine o_fieldR rfl (by omega) ?_
    refine o_load1 (v := .string x.name) rfl rfl ?_
    first | refine o_field rfl ?_ | refine o_fieldR rfl (by omega) ?_
    refine o_load1 (v := .string y.name) rfl rfl ?_
    refine o_sneqT (r := false) rfl rfl (by rw [hn]; simp) ?_
    refine g_end (G.imp (hQ_ .normal _) ?_)
    clear hQ_ Q_
    try refine g_then ?_
    first | refine g_seq (g_cond_f rfl (by first | rfl | (simp; done) | (simp; omega) | (simp; assumption)) ?_) | refine g_cond_f rfl (by first | rfl | (simp; done) | (simp; omega) | (simp; assumption)) ?_
    have hv2 : decide (cmpT x.r.zs y.r.zs < 0) = v0 := by
      rw [← hv]
      have : x.pl.cmp y.pl = cmpT x.r.zs y.r.zs := by
        show (if cmpS x.name y.name = 0 then cmpT x.r.zs y.r.zs else cmpS x.name y.name) = _
        rw [if_pos (by rw [toList_inj' hn]; exact linS.refl _)]
      rw [this]
    repeat (first | refine g_endt ?_ | refine g_end ?_ | refine g_then ?_ | refine g_in_normal ?_ | refine g_then_ret ?_ | refine g_in_ret ?_ | refine g_then_exit ?_ | refine g_in_exit rfl ?_ | refine g_in_exit_ne (by decide) ?_ | refine g_seq ?_ | refine g_region ?_ | refine g_block ?_ | refine g_ret ?_ | refine g_return_n ?_ | refine g_exit ?_ | refine g_skip ?_)
    refine g_hideR fun Q_ hQ_ => ?_
    first | refine o_field rfl ?_ | refine o_fieldR rfl (by omega) ?_
    refine o_load1 (v := .slice x.r.a x.r.len x.r.cap) rfl rfl ?_
    first | refine o_field rfl ?_ | refine o_fieldR rfl (by omega) ?_
    refine o_load1 (v := .slice y.r.a y.r.len y.r.cap) rfl rfl ?_
    refine o_callp (Less_spec x.r.a y.r.a x.r.len x.r.cap y.r.len y.r.cap x.r.zs y.r.zs hx.1 hy.1 hx.2 hy.2 hv2) rfl rfl ?_
    rintro _ _ ⟨rfl, rfl⟩
    refine o_assign ?_
    refine g_end (G.imp (hQ_ .normal _) ?_)
    clear hQ_ Q_
    try refine g_then ?_
    repeat (first | refine g_endt ?_ | refine g_end ?_ | refine g_then ?_ | refine g_in_normal ?_ | refine g_then_ret ?_ | refine g_in_ret ?_ | refine g_then_exit ?_ | refine g_in_exit rfl ?_ | refine g_in_exit_ne (by decide) ?_ | refine g_seq ?_ | refine g_region ?_ | refine g_block ?_ | refine g_ret ?_ | refine g_return_n ?_ | refine g_exit ?_ | refine g_skip ?_)
    exact ret1 (K := []) rfl (resT (v := .bool v0) rfl) ⟨rfl, rfl⟩
  · skip
    repeat (first | refine g_endt ?_ | refine g_end ?_ | refine g_then ?_ | refine g_in_normal ?_ | refine g_then_ret ?_ | refine g_in_ret ?_ | refine g_then_exit ?_ | refine g_in_exit rfl ?_ | refine g_in_exit_ne (by decide) ?_ | refine g_seq ?_ | refine g_region ?_ | refine g_block ?_ | refine g_ret ?_ | refine g_return_n ?_ | refine g_exit ?_ | refine g_skip ?_)
    refine g_hideR fun Q_ hQ_ => ?_
    first | refine o_field rfl ?_ | refine o_fieldR rfl (by omega) ?_
    refine o_load1 (v := .string x.name) rfl rfl ?_
    first | refine o_field rfl ?_ | refine o_fieldR rfl (by omega) ?_
    refine o_load1 (v := .string y.name) rfl rfl ?_
    refine o_sneqT (r := true) rfl rfl (by simpa using hn) ?_
    refine g_end (G.imp (hQ_ .normal _) ?_)
    clear hQ_ Q_
    try refine g_then ?_
    first | refine g_seq (g_cond_t rfl (by first | rfl | (simp; done) | (simp; omega) | (simp; assumption)) ?_) | refine g_cond_t rfl (by first | rfl | (simp; done) | (simp; omega) | (simp; assumption)) ?_
    have hv2 : Op.bytesLess x.name.toList y.name.toList = v0 := by
      rw [← hv, cmpS_lt hn]
      have : x.pl.cmp y.pl = cmpS x.name y.name := by
        show (if cmpS x.name y.name = 0 then cmpT x.r.zs y.r.zs else cmpS x.name y.name) = _
        rw [if_neg (cmpS_ne hn)]
      rw [this]
    repeat (first | refine g_endt ?_ | refine g_end ?_ | refine g_then ?_ | refine g_in_normal ?_ | refine g_then_ret ?_ | refine g_in_ret ?_ | refine g_then_exit ?_ | refine g_in_exit rfl ?_ | refine g_in_exit_ne (by decide) ?_ | refine g_seq ?_ | refine g_region ?_ | refine g_block ?_ | refine g_ret ?_ | refine g_return_n ?_ | refine g_exit ?_ | refine g_skip ?_)
    refine g_hideR fun Q_ hQ_ => ?_
    first | refine o_field rfl ?_ | refine o_fieldR rfl (by omega) ?_
    refine o_load1 (v := .string x.name) rfl rfl ?_
    first | refine o_field rfl ?_ | refine o_fieldR rfl (by omega) ?_
    refine o_load1 (v := .string y.name) rfl rfl ?_
    refine o_slss (s := x.name) (t := y.name) rfl rfl ?_
    refine o_assign ?_
    refine g_end (G.imp (hQ_ .normal _) ?_)
    clear hQ_ Q_
    try refine g_then ?_
    repeat (first | refine g_endt ?_ | refine g_end ?_ | refine g_then ?_ | refine g_in_normal ?_ | refine g_then_ret ?_ | refine g_in_ret ?_ | refine g_then_exit ?_ | refine g_in_exit rfl ?_ | refine g_in_exit_ne (by decide) ?_ | refine g_seq ?_ | refine g_region ?_ | refine g_block ?_ | refine g_ret ?_ | refine g_return_n ?_ | refine g_exit ?_ | refine g_skip ?_)
    exact ret1 (K := []) rfl (resT (v := .bool (Op.bytesLess x.name.toList y.name.toList)) rfl) ⟨by rw [hv2], rfl⟩
theorem Same_spec (x y : MatD) (hx : ROk x.r) (hy : ROk y.r) {v0 : Bool} (hv : decide (x.pl.cmp y.pl = 0) = v0) : Ctr Try.prog 70 [x.val, y.val] [psl encI 1 x.r.a x.r.zs, psl encI 1 y.r.a y.r.zs] (fun v M => v = .bool v0 ∧ M = []) := by
  refine spec_of Try.func70 rfl Try.ntmps70 rfl fun w0 F => ?_
  -- hide
  -- ponder/ponderref09.Same
  have hsw := MatP.lin.swap x.pl y.pl
  repeat (first | refine g_endt ?_ | refine g_end ?_ | refine g_then ?_ | refine g_in_normal ?_ | refine g_then_ret ?_ | refine g_in_ret ?_ | refine g_then_exit ?_ | refine g_in_exit rfl ?_ | refine g_in_exit_ne (by decide) ?_ | refine g_seq ?_ | refine g_region ?_ | refine g_block ?_ | refine g_ret ?_ | refine g_return_n ?_ | refine g_exit ?_ | refine g_skip ?_)
  refine g_hideR fun Q_ hQ_ => ?_
  refine o_boxc x.val.cells rfl rfl fun c2 => ?_
  refine o_boxc y.val.cells rfl rfl fun c3 => ?_
  refine o_assign ?_
  refine g_end (G.imp (hQ_ .normal _) ?_)
  clear hQ_ Q_
  try refine g_then ?_
  by_cases h1 : x.pl.cmp y.pl < 0
  · skip
    repeat (first | refine g_endt ?_ | refine g_end ?_ | refine g_then ?_ | refine g_in_normal ?_ | refine g_then_ret ?_ | refine g_in_ret ?_ | refine g_then_exit ?_ | refine g_in_exit rfl ?_ | refine g_in_exit_ne (by decide) ?_ | refine g_seq ?_ | refine g_region ?_ | refine g_block ?_ | refine g_ret ?_ | refine g_return_n ?_ | refine g_exit ?_ | refine g_skip ?_)
    refine g_hideR fun Q_ hQ_ => ?_
    refine o_loadN (v := x.val) rfl rfl rfl ?_
    refine o_loadN (v := y.val) rfl rfl rfl ?_
    refine o_callp (Before_spec x y hx hy (v0 := true) (decide_eq_true h1)) rfl rfl ?_
    rintro _ _ ⟨rfl, rfl⟩
    refine o_not rfl ?_
    refine o_move ?_
    first | refine o_unwanted rfl rfl rfl rfl rfl ?_ | refine o_undef rfl rfl rfl ?_
    first | refine o_unwanted rfl rfl rfl rfl rfl ?_ | refine o_undef rfl rfl rfl ?_
    first | refine o_unwanted rfl rfl rfl rfl rfl ?_ | refine o_undef rfl rfl rfl ?_
    first | (refine o_want rfl rfl rfl rfl rfl ?_; refine o_not rfl ?_) | refine o_unwanted rfl rfl rfl rfl rfl ?_ | refine o_undef rfl rfl rfl ?_
    first | refine o_pick_t rfl rfl ?_ | refine o_pick_f rfl rfl ?_
    refine o_assign ?_
    refine g_end (G.imp (hQ_ .normal _) ?_)
    clear hQ_ Q_
    try refine g_then ?_
    repeat (first | refine g_endt ?_ | refine g_end ?_ | refine g_then ?_ | refine g_in_normal ?_ | refine g_then_ret ?_ | refine g_in_ret ?_ | refine g_then_exit ?_ | refine g_in_exit rfl ?_ | refine g_in_exit_ne (by decide) ?_ | refine g_seq ?_ | refine g_region ?_ | refine g_block ?_ | refine g_ret ?_ | refine g_return_n ?_ | refine g_exit ?_ | refine g_skip ?_)
    exact ret1 (K := []) rfl (resT (v := .bool false) rfl) ⟨by rw [← hv, decide_eq_false (by omega)], rfl⟩
  · obtain ⟨b, hb⟩ : ∃ b, decide (y.pl.cmp x.pl < 0) = b := ⟨_, rfl⟩
    have hbv : (!b) = v0 := by
      rw [← hb, ← hv]
      have : y.pl.cmp x.pl < 0 ↔ ¬ x.pl.cmp y.pl = 0 := by omega
      by_cases e : x.pl.cmp y.pl = 0
      · rw [decide_eq_true e, decide_eq_false (by omega)]; rfl
      · rw [decide_eq_false e, decide_eq_true (by omega)]; rfl
    subst hbv
    repeat (first | refine g_endt ?_ | refine g_end ?_ | refine g_then ?_ | refine g_in_normal ?_ | refine g_then_ret ?_ | refine g_in_ret ?_ | refine g_then_exit ?_ | refine g_in_exit rfl ?_ | refine g_in_exit_ne (by decide) ?_ | refine g_seq ?_ | refine g_region ?_ | refine g_block ?_ | refine g_ret ?_ | refine g_return_n ?_ | refine g_exit ?_ | refine g_skip ?_)
    refine g_hideR fun Q_ hQ_ => ?_
    refine o_loadN (v := x.val) rfl rfl rfl ?_
    refine o_loadN (v := y.val) rfl rfl rfl ?_
    refine o_callp (Before_spec x y hx hy (v0 := false) (decide_eq_false h1)) rfl rfl ?_
    rintro _ _ ⟨rfl, rfl⟩
    refine o_not rfl ?_
    refine o_move ?_
    refine o_want rfl rfl rfl rfl rfl (o_loadN (v := y.val) rfl rfl rfl ?_)
    refine o_want rfl rfl rfl rfl rfl (o_loadN (v := x.val) rfl rfl rfl ?_)
    refine o_want rfl rfl rfl rfl rfl (o_callp (Before_spec y x hy hx hb) rfl rfl ?_)
    rintro _ _ ⟨rfl, rfl⟩
    first | (refine o_want rfl rfl rfl rfl rfl ?_; refine o_not rfl ?_) | refine o_unwanted rfl rfl rfl rfl rfl ?_ | refine o_undef rfl rfl rfl ?_
    first | refine o_pick_t rfl rfl ?_ | refine o_pick_f rfl rfl ?_
    refine o_assign ?_
    refine g_end (G.imp (hQ_ .normal _) ?_)
    clear hQ_ Q_
    try refine g_then ?_
    repeat (first | refine g_endt ?_ | refine g_end ?_ | refine g_then ?_ | refine g_in_normal ?_ | refine g_then_ret ?_ | refine g_in_ret ?_ | refine g_then_exit ?_ | refine g_in_exit rfl ?_ | refine g_in_exit_ne (by decide) ?_ | refine g_seq ?_ | refine g_region ?_ | refine g_block ?_ | refine g_ret ?_ | refine g_return_n ?_ | refine g_exit ?_ | refine g_skip ?_)
    exact ret1 (K := []) rfl (resT (v := .bool !b) rfl) ⟨rfl, rfl⟩
end Go.Proofs.Ytkglmhgehccmoaa
/- Acts on instantiations, played. -/
namespace Go.Proofs.Ytkglmhgehccmoaa
open Go Go.Sl
attribute [local irreducible] Exit.then Exit.inBlock Code.wpIn roundPost bodyPostM runL Ret Meets MeetsD Begin

abbrev cAct (c : Nat) (q : ActD) : SProp := cellsB c q.val.cells 79
abbrev cIn (c : Nat) (v : InstV) : SProp := cellsB c v.val.cells 31
theorem xI_eta (next : Int) (q : ActD) : InstP.mk (xI next q).num (xI next q).level q.i.name q.i.r.zs q.i.o = xI next q := by
  unfold xI
  split <;> rfl
set_option maxHeartbeats 4000000 in
theorem play14_spec (s r : Nat) (room : Int) (k0 : Nat) (st0 : Int × List InstP) (h0 : InvI k0 st0) (hk0 : k0 ≤ 1000) (A : Option Addr) (n c : Nat) (ys : List ActD) (hl : ys.length = n) (hm : n ≤ 80) (hr : ∀ q ∈ ys, q.Ok) (hq20 : ∀ q ∈ ys, q.i.r.len ≤ 20 ∧ q.ns.len ≤ 20) {st : Int × List InstP} (hst : playI room st0 ys = st) :
    Ctr Try.prog 18 [.pointer (some ⟨s, 0, none⟩), .pointer (some ⟨r, 0, none⟩), .slice A n c] (StP s room st0.1 st0.2 :: RefI r room st0.1 st0.2 :: acK A ys) (fun v M => v = .bool true ∧ M = [StP s room st.1 st.2, RefI r room st.1 st.2]) := by
  refine spec_of Try.func18 rfl Try.ntmps18 rfl fun w0 F => ?_
  -- hide
  -- ponder/ponderlaw14.play
  have htg : ∀ q ∈ ys, q.i.r.zs.length ≤ 20 := fun q hq => by rw [(hr q hq).ll]; exact (hq20 q hq).1
  repeat (first | refine g_endt ?_ | refine g_end ?_ | refine g_then ?_ | refine g_in_normal ?_ | refine g_then_ret ?_ | refine g_in_ret ?_ | refine g_then_exit ?_ | refine g_in_exit rfl ?_ | refine g_in_exit_ne (by decide) ?_ | refine g_seq ?_ | refine g_region ?_ | refine g_block ?_ | refine g_ret ?_ | refine g_return_n ?_ | refine g_exit ?_ | refine g_skip ?_)
  refine g_hideR fun Q_ hQ_ => ?_
  refine o_assign ?_
  refine g_end (G.imp (hQ_ .normal _) ?_)
  clear hQ_ Q_
  try refine g_then ?_
  repeat (first | refine g_endt ?_ | refine g_end ?_ | refine g_then ?_ | refine g_in_normal ?_ | refine g_then_ret ?_ | refine g_in_ret ?_ | refine g_then_exit ?_ | refine g_in_exit rfl ?_ | refine g_in_exit_ne (by decide) ?_ | refine g_seq ?_ | refine g_region ?_ | refine g_block ?_ | refine g_ret ?_ | refine g_return_n ?_ | refine g_exit ?_ | refine g_skip ?_)
  refine g_hideR fun Q_ hQ_ => ?_
  refine o_assign ?_
  refine g_end (G.imp (hQ_ .normal _) ?_)
  clear hQ_ Q_
  try refine g_then ?_
  repeat (first | refine g_endt ?_ | refine g_end ?_ | refine g_then ?_ | refine g_in_normal ?_ | refine g_then_ret ?_ | refine g_in_ret ?_ | refine g_then_exit ?_ | refine g_in_exit rfl ?_ | refine g_in_exit_ne (by decide) ?_ | refine g_seq ?_ | refine g_region ?_ | refine g_block ?_ | refine g_ret ?_ | refine g_return_n ?_ | refine g_exit ?_ | refine g_skip ?_)
  refine g_loop (σ := {z : Nat × (Int × List InstP) // z.1 ≤ n ∧ playI room st0 (ys.take z.1) = z.2}) (S := fun z => [(0, .pointer (some ⟨s, 0, none⟩)), (1, .pointer (some ⟨r, 0, none⟩)), (2, .slice A n c), (7, .int .i64 (z.1.1 : Int))]) (H := fun z => StP s room z.1.2.1 z.1.2.2 :: RefI r room z.1.2.1 z.1.2.2 :: acK A ys) (μ := fun z => n - z.1.1) (s0 := ⟨(0, st0), Nat.zero_le _, rfl⟩) (Sat.mem ⟨rfl, rfl, rfl, rfl, trivial⟩) ?_
  rintro ⟨⟨i, next, ls⟩, hi, hst1⟩ ρ'
  dsimp only at hi hst1 ⊢
  have hinv : InvI (k0 + i) (next, ls) := by
    have := playI_inv (room := room) (ys.take i) h0 (fun q hq => htg q (List.mem_of_mem_take hq))
    rw [hst1, List.length_take, Nat.min_eq_left (by omega)] at this
    exact this
  obtain ⟨hlo, hhi, hlen, htag, hlow, hsrt⟩ := hinv
  dsimp only at hlo hhi hlen htag hlow hsrt
  have htag2 : ∀ x ∈ ls, x.tags.length ≤ 1000000 := fun x hx => Nat.le_trans (htag x hx) (by decide)
  by_cases hin : i < n
  · skip
    repeat (first | refine g_endt ?_ | refine g_end ?_ | refine g_then ?_ | refine g_in_normal ?_ | refine g_then_ret ?_ | refine g_in_ret ?_ | refine g_then_exit ?_ | refine g_in_exit rfl ?_ | refine g_in_exit_ne (by decide) ?_ | refine g_seq ?_ | refine g_region ?_ | refine g_block ?_ | refine g_ret ?_ | refine g_return_n ?_ | refine g_exit ?_ | refine g_skip ?_)
    refine g_hideR fun Q_ hQ_ => ?_
    refine o_move ?_
    refine o_move ?_
    refine o_len rfl rfl ?_
    refine o_lssT (t := true) rfl rfl (decide_eq_true (by omega)) ?_
    refine g_end (G.imp (hQ_ .normal _) ?_)
    clear hQ_ Q_
    try refine g_then ?_
    first | refine g_seq (g_cond_t rfl (by first | rfl | (simp; done) | (simp; omega) | (simp; assumption)) ?_) | refine g_cond_t rfl (by first | rfl | (simp; done) | (simp; omega) | (simp; assumption)) ?_
    obtain ⟨q, hq⟩ : ∃ q, ys[i]? = some q := ⟨_, List.getElem?_eq_getElem (by omega)⟩
    have hqm := List.mem_of_getElem? hq
    obtain ⟨ll, lm, rl, rm⟩ := hr q hqm
    obtain ⟨hq1, hq2⟩ := hq20 q hqm
    have hir : q.i.r ∈ ys.map ActD.ir ++ ys.map ActD.ns := List.mem_append_left _ (List.mem_map.2 ⟨q, hqm, rfl⟩)
    have hnr : q.ns ∈ ys.map ActD.ir ++ ys.map ActD.ns := List.mem_append_right _ (List.mem_map_of_mem hqm)
    have hT := playI_take (room := room) (st := st0) hq
    rw [hst1] at hT
    obtain ⟨⟨next', ls'⟩, hst2⟩ : ∃ z, stepI room (next, ls) q = z := ⟨_, rfl⟩
    rw [hst2] at hT
    have hw6 := withinI_lt q.d 6 (by decide)
    obtain ⟨w, hw⟩ : ∃ w, (q.d % ((6 : Nat) : Int)).toNat = w := ⟨_, rfl⟩
    rw [hw] at hw6
    have hdo : doI q = w := hw
    repeat (first | refine g_endt ?_ | refine g_end ?_ | refine g_then ?_ | refine g_in_normal ?_ | refine g_then_ret ?_ | refine g_in_ret ?_ | refine g_then_exit ?_ | refine g_in_exit rfl ?_ | refine g_in_exit_ne (by decide) ?_ | refine g_seq ?_ | refine g_region ?_ | refine g_block ?_ | refine g_ret ?_ | refine g_return_n ?_ | refine g_exit ?_ | refine g_skip ?_)
    repeat (first | refine g_endt ?_ | refine g_end ?_ | refine g_then ?_ | refine g_in_normal ?_ | refine g_then_ret ?_ | refine g_in_ret ?_ | refine g_then_exit ?_ | refine g_in_exit rfl ?_ | refine g_in_exit_ne (by decide) ?_ | refine g_seq ?_ | refine g_region ?_ | refine g_block ?_ | refine g_ret ?_ | refine g_return_n ?_ | refine g_exit ?_ | refine g_skip ?_)
    refine g_hideR fun Q_ hQ_ => ?_
    refine o_move ?_
    refine o_move ?_
    refine o_indexR (ys := ys) (i := i) rfl rfl rfl (by omega) hl rfl ?_
    refine o_loadE (ys := ys) rfl rfl hq ?_
    refine o_alloc fun c8 => ?_
    refine o_store (v := q.val) rfl rfl rfl rfl rfl ?_
    refine g_end (G.imp (hQ_ .normal _) ?_)
    clear hQ_ Q_
    try refine g_then ?_
    refine G.norm c8 q.val.cells rfl ?_
    repeat (first | refine g_endt ?_ | refine g_end ?_ | refine g_then ?_ | refine g_in_normal ?_ | refine g_then_ret ?_ | refine g_in_ret ?_ | refine g_then_exit ?_ | refine g_in_exit rfl ?_ | refine g_in_exit_ne (by decide) ?_ | refine g_seq ?_ | refine g_region ?_ | refine g_block ?_ | refine g_ret ?_ | refine g_return_n ?_ | refine g_exit ?_ | refine g_skip ?_)
    refine g_hideR fun Q_ hQ_ => ?_
    refine o_assign ?_
    refine g_end (G.imp (hQ_ .normal _) ?_)
    clear hQ_ Q_
    try refine g_then ?_
    refine g_cut (σ := Unit) (ds' := []) (S := fun _ => [(0, .pointer (some ⟨s, 0, none⟩)), (1, .pointer (some ⟨r, 0, none⟩)), (2, .slice A n c), (7, .int .i64 (i : Int)), (9, .bool true)]) (H := fun _ => StP s room next' ls' :: RefI r room next' ls' :: acK A ys) (ok := fun _ => True) ?_ ?_
    · skip
      repeat (first | refine g_endt ?_ | refine g_end ?_ | refine g_then ?_ | refine g_in_normal ?_ | refine g_then_ret ?_ | refine g_in_ret ?_ | refine g_then_exit ?_ | refine g_in_exit rfl ?_ | refine g_in_exit_ne (by decide) ?_ | refine g_seq ?_ | refine g_region ?_ | refine g_block ?_ | refine g_ret ?_ | refine g_return_n ?_ | refine g_exit ?_ | refine g_skip ?_)
      refine g_hideR fun Q_ hQ_ => ?_
      first | refine o_field rfl ?_ | refine o_fieldR rfl (by omega) ?_
      refine o_load1 (v := .int .i64 q.d) rfl rfl ?_
      refine o_call (WithinI_spec q.d 6 (by decide) (by decide) hw) rfl rfl ?_
      rintro _ _ ⟨rfl, rfl⟩
      refine g_end (G.imp (hQ_ .normal _) ?_)
      clear hQ_ Q_
      try refine g_then ?_
      refine g_block ?_
      refine g_cut (σ := Unit) (ds' := []) (S := fun _ => [(0, .pointer (some ⟨s, 0, none⟩)), (1, .pointer (some ⟨r, 0, none⟩)), (2, .slice A n c), (7, .int .i64 (i : Int)), (8, .pointer (some ⟨c8, 0, none⟩)), (31, .int .i64 (w : Int)), (88, .bool (decide (w < 3)))]) (H := fun _ => cAct c8 q :: StP s room next ls :: RefI r room next ls :: acK A ys) (ok := fun _ => True) ?_ ?_
      · skip
        repeat (first | refine g_endt ?_ | refine g_end ?_ | refine g_then ?_ | refine g_in_normal ?_ | refine g_then_ret ?_ | refine g_in_ret ?_ | refine g_then_exit ?_ | refine g_in_exit rfl ?_ | refine g_in_exit_ne (by decide) ?_ | refine g_seq ?_ | refine g_block ?_ | refine g_ret ?_ | refine g_return_n ?_ | refine g_exit ?_ | refine g_skip ?_)
        by_cases e0 : w = 0
        · skip
          repeat (first | refine g_endt ?_ | refine g_end ?_ | refine g_then ?_ | refine g_in_normal ?_ | refine g_then_ret ?_ | refine g_in_ret ?_ | refine g_then_exit ?_ | refine g_in_exit rfl ?_ | refine g_in_exit_ne (by decide) ?_ | refine g_seq ?_ | refine g_region ?_ | refine g_block ?_ | refine g_ret ?_ | refine g_return_n ?_ | refine g_exit ?_ | refine g_skip ?_)
          refine g_hideR fun Q_ hQ_ => ?_
          refine o_eqlT (t := true) rfl rfl (by rw [e0]; rfl) ?_
          refine o_assign ?_
          refine g_end (G.imp (hQ_ .normal _) ?_)
          clear hQ_ Q_
          try refine g_then ?_
          first | refine g_seq (g_cond_t rfl (by first | rfl | (simp; done) | (simp; omega) | (simp; assumption)) ?_) | refine g_cond_t rfl (by first | rfl | (simp; done) | (simp; omega) | (simp; assumption)) ?_
          repeat (first | refine g_endt ?_ | refine g_end ?_ | refine g_then ?_ | refine g_in_normal ?_ | refine g_then_ret ?_ | refine g_in_ret ?_ | refine g_then_exit ?_ | refine g_in_exit rfl ?_ | refine g_in_exit_ne (by decide) ?_ | refine g_seq ?_ | refine g_region ?_ | refine g_block ?_ | refine g_ret ?_ | refine g_return_n ?_ | refine g_exit ?_ | refine g_skip ?_)
          exact g_meets () trivial (Sat.mem ⟨rfl, rfl, rfl, rfl, rfl, rfl, by rw [decide_eq_true (by omega)]; rfl, trivial⟩)
        repeat (first | refine g_endt ?_ | refine g_end ?_ | refine g_then ?_ | refine g_in_normal ?_ | refine g_then_ret ?_ | refine g_in_ret ?_ | refine g_then_exit ?_ | refine g_in_exit rfl ?_ | refine g_in_exit_ne (by decide) ?_ | refine g_seq ?_ | refine g_region ?_ | refine g_block ?_ | refine g_ret ?_ | refine g_return_n ?_ | refine g_exit ?_ | refine g_skip ?_)
        refine g_hideR fun Q_ hQ_ => ?_
        refine o_eqlT (t := false) rfl rfl (by simp; omega) ?_
        refine o_assign ?_
        refine g_end (G.imp (hQ_ .normal _) ?_)
        clear hQ_ Q_
        try refine g_then ?_
        first | refine g_seq (g_cond_f rfl (by first | rfl | (simp; done) | (simp; omega) | (simp; assumption)) ?_) | refine g_cond_f rfl (by first | rfl | (simp; done) | (simp; omega) | (simp; assumption)) ?_
        by_cases e1 : w = 1
        · skip
          repeat (first | refine g_endt ?_ | refine g_end ?_ | refine g_then ?_ | refine g_in_normal ?_ | refine g_then_ret ?_ | refine g_in_ret ?_ | refine g_then_exit ?_ | refine g_in_exit rfl ?_ | refine g_in_exit_ne (by decide) ?_ | refine g_seq ?_ | refine g_region ?_ | refine g_block ?_ | refine g_ret ?_ | refine g_return_n ?_ | refine g_exit ?_ | refine g_skip ?_)
          refine g_hideR fun Q_ hQ_ => ?_
          refine o_eqlT (t := true) rfl rfl (by rw [e1]; rfl) ?_
          refine o_assign ?_
          refine g_end (G.imp (hQ_ .normal _) ?_)
          clear hQ_ Q_
          try refine g_then ?_
          first | refine g_seq (g_cond_t rfl (by first | rfl | (simp; done) | (simp; omega) | (simp; assumption)) ?_) | refine g_cond_t rfl (by first | rfl | (simp; done) | (simp; omega) | (simp; assumption)) ?_
          repeat (first | refine g_endt ?_ | refine g_end ?_ | refine g_then ?_ | refine g_in_normal ?_ | refine g_then_ret ?_ | refine g_in_ret ?_ | refine g_then_exit ?_ | refine g_in_exit rfl ?_ | refine g_in_exit_ne (by decide) ?_ | refine g_seq ?_ | refine g_region ?_ | refine g_block ?_ | refine g_ret ?_ | refine g_return_n ?_ | refine g_exit ?_ | refine g_skip ?_)
          exact g_meets () trivial (Sat.mem ⟨rfl, rfl, rfl, rfl, rfl, rfl, by rw [decide_eq_true (by omega)]; rfl, trivial⟩)
        repeat (first | refine g_endt ?_ | refine g_end ?_ | refine g_then ?_ | refine g_in_normal ?_ | refine g_then_ret ?_ | refine g_in_ret ?_ | refine g_then_exit ?_ | refine g_in_exit rfl ?_ | refine g_in_exit_ne (by decide) ?_ | refine g_seq ?_ | refine g_region ?_ | refine g_block ?_ | refine g_ret ?_ | refine g_return_n ?_ | refine g_exit ?_ | refine g_skip ?_)
        refine g_hideR fun Q_ hQ_ => ?_
        refine o_eqlT (t := false) rfl rfl (by simp; omega) ?_
        refine o_assign ?_
        refine g_end (G.imp (hQ_ .normal _) ?_)
        clear hQ_ Q_
        try refine g_then ?_
        first | refine g_seq (g_cond_f rfl (by first | rfl | (simp; done) | (simp; omega) | (simp; assumption)) ?_) | refine g_cond_f rfl (by first | rfl | (simp; done) | (simp; omega) | (simp; assumption)) ?_
        repeat (first | refine g_endt ?_ | refine g_end ?_ | refine g_then ?_ | refine g_in_normal ?_ | refine g_then_ret ?_ | refine g_in_ret ?_ | refine g_then_exit ?_ | refine g_in_exit rfl ?_ | refine g_in_exit_ne (by decide) ?_ | refine g_seq ?_ | refine g_region ?_ | refine g_block ?_ | refine g_ret ?_ | refine g_return_n ?_ | refine g_exit ?_ | refine g_skip ?_)
        refine g_hideR fun Q_ hQ_ => ?_
        refine o_eqlT (t := decide (w < 3)) rfl rfl (by rw [Bool.eq_iff_iff, beq_iff_eq, decide_eq_true_iff]; omega) ?_
        refine o_assign ?_
        refine g_end (G.imp (hQ_ .normal _) ?_)
        clear hQ_ Q_
        try refine g_then ?_
        repeat (first | refine g_endt ?_ | refine g_end ?_ | refine g_then ?_ | refine g_in_normal ?_ | refine g_then_ret ?_ | refine g_in_ret ?_ | refine g_then_exit ?_ | refine g_in_exit rfl ?_ | refine g_in_exit_ne (by decide) ?_ | refine g_seq ?_ | refine g_region ?_ | refine g_block ?_ | refine g_ret ?_ | refine g_return_n ?_ | refine g_exit ?_ | refine g_skip ?_)
        exact g_meets () trivial (Sat.mem ⟨rfl, rfl, rfl, rfl, rfl, rfl, rfl, trivial⟩)
      · rintro _ ρ2 _
        by_cases hw3 : w < 3
        · first | refine g_seq (g_cond_t rfl (by simpa using hw3) ?_) | refine g_cond_t rfl (by simpa using hw3) ?_
          have hst3 : stepI room (next, ls) q = (putI room next ls (xI next q)).2 := by unfold stepI; rw [if_neg (by omega), if_neg (by omega), if_neg (by omega)]
          obtain ⟨v0, hput⟩ : ∃ v0, putI room next ls (xI next q) = (v0, next', ls') := ⟨(putI room next ls (xI next q)).1, by rw [hst3] at hst2; rw [← hst2]⟩
          have heta := xI_eta next q
          obtain ⟨x, hx⟩ : ∃ x, xI next q = x := ⟨_, rfl⟩
          rw [hx] at hput heta
          have hw8 := withinI_lt q.i.level 8 (by decide)
          obtain ⟨w8, hw8e⟩ : ∃ w8, (q.i.level % ((8 : Nat) : Int)).toNat = w8 := ⟨_, rfl⟩
          rw [hw8e] at hw8
          refine G.rowG (enc := encI) (sz := 1) hir ?_
          repeat (first | refine g_endt ?_ | refine g_end ?_ | refine g_then ?_ | refine g_in_normal ?_ | refine g_then_ret ?_ | refine g_in_ret ?_ | refine g_then_exit ?_ | refine g_in_exit rfl ?_ | refine g_in_exit_ne (by decide) ?_ | refine g_seq ?_ | refine g_region ?_ | refine g_block ?_ | refine g_ret ?_ | refine g_return_n ?_ | refine g_exit ?_ | refine g_skip ?_)
          refine g_hideR fun Q_ hQ_ => ?_
          first | refine o_field rfl ?_ | refine o_fieldR rfl (by omega) ?_
          refine o_loadN (v := q.i.val) rfl rfl rfl ?_
          refine o_alloc fun c10 => ?_
          refine o_store (v := q.i.val) rfl rfl rfl rfl rfl ?_
          refine g_end (G.imp (hQ_ .normal _) ?_)
          clear hQ_ Q_
          try refine g_then ?_
          refine G.norm c10 q.i.val.cells rfl ?_
          refine g_cut (σ := Unit) (ds' := []) (S := fun _ => [(0, .pointer (some ⟨s, 0, none⟩)), (1, .pointer (some ⟨r, 0, none⟩)), (2, .slice A n c), (7, .int .i64 (i : Int)), (8, .pointer (some ⟨c8, 0, none⟩)), (10, .pointer (some ⟨c10, 0, none⟩))]) (H := fun _ => cIn c10 (InstV.mk x.num x.level q.i.name q.i.r.a q.i.r.len q.i.r.cap q.i.o) :: psl encI 1 q.i.r.a q.i.r.zs :: cAct c8 q :: StP s room next ls :: RefI r room next ls :: acK A ys) (ok := fun _ => True) ?_ ?_
          · cases hraw : q.raw with
            | true =>
              have hx1 : q.i.pl = x := by rw [← hx]; unfold xI; rw [hraw]; rfl
              have hn1 : q.i.num = x.num := congrArg InstP.num hx1
              have hn2 : q.i.level = x.level := congrArg InstP.level hx1
              rw [← hn1, ← hn2]
              refine G.norm c10 (InstV.mk q.i.num q.i.level q.i.name q.i.r.a q.i.r.len q.i.r.cap q.i.o).val.cells rfl ?_
              repeat (first | refine g_endt ?_ | refine g_end ?_ | refine g_then ?_ | refine g_in_normal ?_ | refine g_then_ret ?_ | refine g_in_ret ?_ | refine g_then_exit ?_ | refine g_in_exit rfl ?_ | refine g_in_exit_ne (by decide) ?_ | refine g_seq ?_ | refine g_region ?_ | refine g_block ?_ | refine g_ret ?_ | refine g_return_n ?_ | refine g_exit ?_ | refine g_skip ?_)
              refine g_hideR fun Q_ hQ_ => ?_
              first | refine o_field rfl ?_ | refine o_fieldR rfl (by omega) ?_
              refine o_load1 (v := .bool true) rfl (by rw [← hraw]; rfl) ?_
              refine o_not rfl ?_
              refine g_end (G.imp (hQ_ .normal _) ?_)
              clear hQ_ Q_
              try refine g_then ?_
              first | refine g_seq (g_cond_f rfl (by first | rfl | (simp; done) | (simp; omega) | (simp; assumption)) ?_) | refine g_cond_f rfl (by first | rfl | (simp; done) | (simp; omega) | (simp; assumption)) ?_
              repeat (first | refine g_endt ?_ | refine g_end ?_ | refine g_then ?_ | refine g_in_normal ?_ | refine g_then_ret ?_ | refine g_in_ret ?_ | refine g_then_exit ?_ | refine g_in_exit rfl ?_ | refine g_in_exit_ne (by decide) ?_ | refine g_seq ?_ | refine g_region ?_ | refine g_block ?_ | refine g_ret ?_ | refine g_return_n ?_ | refine g_exit ?_ | refine g_skip ?_)
              exact g_meets () trivial (Sat.mem ⟨rfl, rfl, rfl, rfl, rfl, rfl, trivial⟩)
            | false =>
              have hx1 : InstP.mk next (1 + (w8 : Int)) q.i.name q.i.r.zs q.i.o = x := by rw [← hx]; unfold xI; rw [hraw, hw8e]; rfl
              have hn1 : next = x.num := congrArg InstP.num hx1
              have hn2 : 1 + (w8 : Int) = x.level := congrArg InstP.level hx1
              rw [← hn1, ← hn2]
              refine openRI r room next ls fun a c0 => ?_
              repeat (first | refine g_endt ?_ | refine g_end ?_ | refine g_then ?_ | refine g_in_normal ?_ | refine g_then_ret ?_ | refine g_in_ret ?_ | refine g_then_exit ?_ | refine g_in_exit rfl ?_ | refine g_in_exit_ne (by decide) ?_ | refine g_seq ?_ | refine g_region ?_ | refine g_block ?_ | refine g_ret ?_ | refine g_return_n ?_ | refine g_exit ?_ | refine g_skip ?_)
              refine g_hideR fun Q_ hQ_ => ?_
              first | refine o_field rfl ?_ | refine o_fieldR rfl (by omega) ?_
              refine o_load1 (v := .bool false) rfl (by rw [← hraw]; rfl) ?_
              refine o_not rfl ?_
              refine g_end (G.imp (hQ_ .normal _) ?_)
              clear hQ_ Q_
              try refine g_then ?_
              first | refine g_seq (g_cond_t rfl (by first | rfl | (simp; done) | (simp; omega) | (simp; assumption)) ?_) | refine g_cond_t rfl (by first | rfl | (simp; done) | (simp; omega) | (simp; assumption)) ?_
              repeat (first | refine g_endt ?_ | refine g_end ?_ | refine g_then ?_ | refine g_in_normal ?_ | refine g_then_ret ?_ | refine g_in_ret ?_ | refine g_then_exit ?_ | refine g_in_exit rfl ?_ | refine g_in_exit_ne (by decide) ?_ | refine g_seq ?_ | refine g_region ?_ | refine g_block ?_ | refine g_ret ?_ | refine g_return_n ?_ | refine g_exit ?_ | refine g_skip ?_)
              refine g_hideR fun Q_ hQ_ => ?_
              refine o_move ?_
              refine o_nil rfl ?_
              first | refine o_field rfl ?_ | refine o_fieldR rfl (by omega) ?_
              refine o_load1 (v := .int .i64 next) rfl rfl ?_
              first | refine o_field rfl ?_ | refine o_fieldR rfl (by omega) ?_
              refine o_store (v := .int .i64 next) rfl rfl rfl rfl rfl ?_
              refine g_end (G.imp (hQ_ .normal _) ?_)
              clear hQ_ Q_
              try refine g_then ?_
              refine G.norm c10 (InstV.mk next q.i.level q.i.name q.i.r.a q.i.r.len q.i.r.cap q.i.o).val.cells rfl ?_
              refine shutRI r room next ls a c0 rfl ?_
              repeat (first | refine g_endt ?_ | refine g_end ?_ | refine g_then ?_ | refine g_in_normal ?_ | refine g_then_ret ?_ | refine g_in_ret ?_ | refine g_then_exit ?_ | refine g_in_exit rfl ?_ | refine g_in_exit_ne (by decide) ?_ | refine g_seq ?_ | refine g_region ?_ | refine g_block ?_ | refine g_ret ?_ | refine g_return_n ?_ | refine g_exit ?_ | refine g_skip ?_)
              refine g_hideR fun Q_ hQ_ => ?_
              first | refine o_field rfl ?_ | refine o_fieldR rfl (by omega) ?_
              refine o_load1 (v := .int .i64 q.i.level) rfl rfl ?_
              refine o_call (WithinI_spec q.i.level 8 (by decide) (by decide) hw8e) rfl rfl ?_
              rintro _ _ ⟨rfl, rfl⟩
              refine o_add (c := 1 + (w8 : Int)) rfl rfl rfl (by omega) (by omega) ?_
              first | refine o_field rfl ?_ | refine o_fieldR rfl (by omega) ?_
              refine o_store (v := .int .i64 (1 + (w8 : Int))) rfl rfl rfl rfl rfl ?_
              refine g_end (G.imp (hQ_ .normal _) ?_)
              clear hQ_ Q_
              try refine g_then ?_
              refine G.norm c10 (InstV.mk next (1 + (w8 : Int)) q.i.name q.i.r.a q.i.r.len q.i.r.cap q.i.o).val.cells rfl ?_
              repeat (first | refine g_endt ?_ | refine g_end ?_ | refine g_then ?_ | refine g_in_normal ?_ | refine g_then_ret ?_ | refine g_in_ret ?_ | refine g_then_exit ?_ | refine g_in_exit rfl ?_ | refine g_in_exit_ne (by decide) ?_ | refine g_seq ?_ | refine g_region ?_ | refine g_block ?_ | refine g_ret ?_ | refine g_return_n ?_ | refine g_exit ?_ | refine g_skip ?_)
              exact g_meets () trivial (Sat.mem ⟨rfl, rfl, rfl, rfl, rfl, rfl, trivial⟩)
          · rintro _ ρ3 _
            refine G.dup (psl encI 1 q.i.r.a q.i.r.zs) ?_
            repeat (first | refine g_endt ?_ | refine g_end ?_ | refine g_then ?_ | refine g_in_normal ?_ | refine g_then_ret ?_ | refine g_in_ret ?_ | refine g_then_exit ?_ | refine g_in_exit rfl ?_ | refine g_in_exit_ne (by decide) ?_ | refine g_seq ?_ | refine g_region ?_ | refine g_block ?_ | refine g_ret ?_ | refine g_return_n ?_ | refine g_exit ?_ | refine g_skip ?_)
            refine g_hideR fun Q_ hQ_ => ?_
            first | refine o_field rfl ?_ | refine o_fieldR rfl (by omega) ?_
            first | refine o_field rfl ?_ | refine o_fieldR rfl (by omega) ?_
            refine o_load1 (v := .slice q.i.r.a q.i.r.len q.i.r.cap) rfl rfl ?_
            refine o_call (CopyI_spec q.i.r.a q.i.r.len q.i.r.cap q.i.r.zs ll (by omega)) rfl rfl ?_
            rintro _ _ ⟨S1, e1, rfl, rfl⟩
            first | refine o_field rfl ?_ | refine o_fieldR rfl (by omega) ?_
            refine o_store (v := .slice S1 q.i.r.len e1) rfl rfl rfl rfl rfl ?_
            refine g_end (G.imp (hQ_ .normal _) ?_)
            clear hQ_ Q_
            try refine g_then ?_
            refine G.norm c10 (InstV.mk x.num x.level q.i.name S1 q.i.r.len e1 q.i.o).val.cells rfl ?_
            repeat (first | refine g_endt ?_ | refine g_end ?_ | refine g_then ?_ | refine g_in_normal ?_ | refine g_then_ret ?_ | refine g_in_ret ?_ | refine g_then_exit ?_ | refine g_in_exit rfl ?_ | refine g_in_exit_ne (by decide) ?_ | refine g_seq ?_ | refine g_region ?_ | refine g_block ?_ | refine g_ret ?_ | refine g_return_n ?_ | refine g_exit ?_ | refine g_skip ?_)
            refine g_hideR fun Q_ hQ_ => ?_
            refine o_loadN (v := (InstV.mk x.num x.level q.i.name S1 q.i.r.len e1 q.i.o).val) rfl rfl rfl ?_
            refine o_alloc fun c11 => ?_
            refine o_store (v := (InstV.mk x.num x.level q.i.name S1 q.i.r.len e1 q.i.o).val) rfl rfl rfl rfl rfl ?_
            refine g_end (G.imp (hQ_ .normal _) ?_)
            clear hQ_ Q_
            try refine g_then ?_
            refine G.norm c11 (InstV.mk x.num x.level q.i.name S1 q.i.r.len e1 q.i.o).val.cells rfl ?_
            repeat (first | refine g_endt ?_ | refine g_end ?_ | refine g_then ?_ | refine g_in_normal ?_ | refine g_then_ret ?_ | refine g_in_ret ?_ | refine g_then_exit ?_ | refine g_in_exit rfl ?_ | refine g_in_exit_ne (by decide) ?_ | refine g_seq ?_ | refine g_region ?_ | refine g_block ?_ | refine g_ret ?_ | refine g_return_n ?_ | refine g_exit ?_ | refine g_skip ?_)
            refine g_hideR fun Q_ hQ_ => ?_
            first | refine o_field rfl ?_ | refine o_fieldR rfl (by omega) ?_
            first | refine o_field rfl ?_ | refine o_fieldR rfl (by omega) ?_
            refine o_load1 (v := .slice q.i.r.a q.i.r.len q.i.r.cap) rfl rfl ?_
            refine o_call (CopyI_spec q.i.r.a q.i.r.len q.i.r.cap q.i.r.zs ll (by omega)) rfl rfl ?_
            rintro _ _ ⟨S2, e2, rfl, rfl⟩
            first | refine o_field rfl ?_ | refine o_fieldR rfl (by omega) ?_
            refine o_store (v := .slice S2 q.i.r.len e2) rfl rfl rfl rfl rfl ?_
            refine g_end (G.imp (hQ_ .normal _) ?_)
            clear hQ_ Q_
            try refine g_then ?_
            refine G.norm c11 (InstV.mk x.num x.level q.i.name S2 q.i.r.len e2 q.i.o).val.cells rfl ?_
            refine G.bring [oI S2 e2 q.i.r.zs] (G.frz ?_)
            rw [← heta] at hput
            repeat (first | refine g_endt ?_ | refine g_end ?_ | refine g_then ?_ | refine g_in_normal ?_ | refine g_then_ret ?_ | refine g_in_ret ?_ | refine g_then_exit ?_ | refine g_in_exit rfl ?_ | refine g_in_exit_ne (by decide) ?_ | refine g_seq ?_ | refine g_region ?_ | refine g_block ?_ | refine g_ret ?_ | refine g_return_n ?_ | refine g_exit ?_ | refine g_skip ?_)
            refine g_hide fun Q_ hQ_ => ?_
            refine g_draw [2,5] [0,1,3,4,2,5,6,7] [cIn c10 (InstV.mk x.num x.level q.i.name S1 q.i.r.len e1 q.i.o), cIn c11 (InstV.mk x.num x.level q.i.name S2 q.i.r.len e2 q.i.o)] mixed rfl ?_
            refine ob_q rfl rfl ⟨_, fun X Q h => o_move (g_end (h _ _ ⟨rfl, rfl⟩)), ?_⟩
            refine ob_q rfl rfl ⟨_, fun X Q h => o_loadN (v := (InstV.mk x.num x.level q.i.name S1 q.i.r.len e1 q.i.o).val) rfl rfl rfl (g_end (h _ _ ⟨rfl, rfl⟩)), ?_⟩
            refine ob_q rfl rfl ⟨_, fun X Q h => o_move (g_end (h _ _ ⟨rfl, rfl⟩)), ?_⟩
            refine ob_q rfl rfl ⟨_, fun X Q h => o_loadN (v := (InstV.mk x.num x.level q.i.name S2 q.i.r.len e2 q.i.o).val) rfl rfl rfl (g_end (h _ _ ⟨rfl, rfl⟩)), ?_⟩
            refine ob_l rfl rfl fun Qz hz => o_call (Put14O_spec e1 s room next ls (InstV.mk x.num x.level q.i.name S1 q.i.r.len e1 q.i.o) q.i.r.zs ll (by show q.i.r.len ≤ _; omega) (by omega) hput) rfl rfl ?_
            rintro _ _ ⟨rfl, rfl⟩
            refine g_end (hz _ _ ⟨_, ob_fin, ?_⟩)
            clear hz Qz
            refine ob_l rfl rfl fun Qz hz => o_call (PutR14_spec r room next ls (by omega) (InstV.mk x.num x.level q.i.name S2 q.i.r.len e2 q.i.o) q.i.r.zs ll (by show q.i.r.len ≤ _; omega) ⟨by omega, by omega⟩ hput) rfl rfl ?_
            rintro _ _ ⟨rfl, rfl⟩
            refine g_end (hz _ _ ⟨_, ob_fin, ?_⟩)
            clear hz Qz
            refine ob_q rfl rfl ⟨_, fun X Q h => o_eqlT (t := true) rfl rfl (by simp) (g_end (h _ _ ⟨rfl, rfl⟩)), ?_⟩
            refine ob_q rfl rfl ⟨_, fun X Q h => o_assign (g_end (h _ _ ⟨rfl, rfl⟩)), ?_⟩
            refine ob_nil ?_
            refine G.imp (hQ_ .normal _) ?_
            clear hQ_ Q_
            try refine g_then ?_
            repeat (first | refine g_endt ?_ | refine g_end ?_ | refine g_then ?_ | refine g_in_normal ?_ | refine g_then_ret ?_ | refine g_in_ret ?_ | refine g_then_exit ?_ | refine g_in_exit rfl ?_ | refine g_in_exit_ne (by decide) ?_ | refine g_seq ?_ | refine g_region ?_ | refine g_block ?_ | refine g_ret ?_ | refine g_return_n ?_ | refine g_exit ?_ | refine g_skip ?_)
            refine g_hideR fun Q_ hQ_ => ?_
            refine o_assign ?_
            refine g_end (G.imp (hQ_ .normal _) ?_)
            clear hQ_ Q_
            try refine g_then ?_
            repeat (first | refine g_endt ?_ | refine g_end ?_ | refine g_then ?_ | refine g_in_normal ?_ | refine g_then_ret ?_ | refine g_in_ret ?_ | refine g_then_exit ?_ | refine g_in_exit rfl ?_ | refine g_in_exit_ne (by decide) ?_ | refine g_seq ?_ | refine g_region ?_ | refine g_block ?_ | refine g_ret ?_ | refine g_return_n ?_ | refine g_exit ?_ | refine g_skip ?_)
            refine g_loop (σ := {t : Nat × List Int // t.1 ≤ q.i.r.len ∧ t.2.length = q.i.r.len}) (S := fun t => [(0, .pointer (some ⟨s, 0, none⟩)), (1, .pointer (some ⟨r, 0, none⟩)), (2, .slice A n c), (7, .int .i64 (i : Int)), (9, .bool true), (10, .pointer (some ⟨c10, 0, none⟩)), (12, .int .i64 (t.1.1 : Int))])
              (H := fun t => oI S1 e1 t.1.2 :: cIn c10 (InstV.mk x.num x.level q.i.name S1 q.i.r.len e1 q.i.o) :: StP s room next' ls' :: RefI r room next' ls' :: acK A ys) (μ := fun t => q.i.r.len - t.1.1) (s0 := ⟨(0, q.i.r.zs), Nat.zero_le _, ll⟩) (Sat.mem ⟨rfl, rfl, rfl, rfl, rfl, rfl, rfl, trivial⟩) ?_
            rintro ⟨⟨k, zs⟩, hk, hzl⟩ ρ4
            dsimp only at hk hzl ⊢
            by_cases hkn : k < q.i.r.len
            · skip
              repeat (first | refine g_endt ?_ | refine g_end ?_ | refine g_then ?_ | refine g_in_normal ?_ | refine g_then_ret ?_ | refine g_in_ret ?_ | refine g_then_exit ?_ | refine g_in_exit rfl ?_ | refine g_in_exit_ne (by decide) ?_ | refine g_seq ?_ | refine g_region ?_ | refine g_block ?_ | refine g_ret ?_ | refine g_return_n ?_ | refine g_exit ?_ | refine g_skip ?_)
              refine g_hideR fun Q_ hQ_ => ?_
              refine o_move ?_
              first | refine o_field rfl ?_ | refine o_fieldR rfl (by omega) ?_
              refine o_load1 (v := .slice S1 q.i.r.len e1) rfl rfl ?_
              refine o_len rfl rfl ?_
              refine o_lssT (t := true) rfl rfl (decide_eq_true (by omega)) ?_
              refine g_end (G.imp (hQ_ .normal _) ?_)
              clear hQ_ Q_
              try refine g_then ?_
              first | refine g_seq (g_cond_t rfl (by first | rfl | (simp; done) | (simp; omega) | (simp; assumption)) ?_) | refine g_cond_t rfl (by first | rfl | (simp; done) | (simp; omega) | (simp; assumption)) ?_
              repeat (first | refine g_endt ?_ | refine g_end ?_ | refine g_then ?_ | refine g_in_normal ?_ | refine g_then_ret ?_ | refine g_in_ret ?_ | refine g_then_exit ?_ | refine g_in_exit rfl ?_ | refine g_in_exit_ne (by decide) ?_ | refine g_seq ?_ | refine g_region ?_ | refine g_block ?_ | refine g_ret ?_ | refine g_return_n ?_ | refine g_exit ?_ | refine g_skip ?_)
              repeat (first | refine g_endt ?_ | refine g_end ?_ | refine g_then ?_ | refine g_in_normal ?_ | refine g_then_ret ?_ | refine g_in_ret ?_ | refine g_then_exit ?_ | refine g_in_exit rfl ?_ | refine g_in_exit_ne (by decide) ?_ | refine g_seq ?_ | refine g_region ?_ | refine g_block ?_ | refine g_ret ?_ | refine g_return_n ?_ | refine g_exit ?_ | refine g_skip ?_)
              refine g_hideR fun Q_ hQ_ => ?_
              first | refine o_field rfl ?_ | refine o_fieldR rfl (by omega) ?_
              refine o_load1 (v := .slice S1 q.i.r.len e1) rfl rfl ?_
              refine o_move ?_
              refine o_indexR (ys := zs) (i := k) rfl rfl rfl (by omega) hzl rfl ?_
              refine o_storeE (e := 3) (c := e1) (v := .int .i64 (-7)) (z := (-7 : Int)) (i := k) (enc := encI) (xs := zs) rfl rfl rfl rfl (by omega) ?_
              refine g_end (G.imp (hQ_ .normal _) ?_)
              clear hQ_ Q_
              try refine g_then ?_
              repeat (first | refine g_endt ?_ | refine g_end ?_ | refine g_then ?_ | refine g_in_normal ?_ | refine g_then_ret ?_ | refine g_in_ret ?_ | refine g_then_exit ?_ | refine g_in_exit rfl ?_ | refine g_in_exit_ne (by decide) ?_ | refine g_seq ?_ | refine g_region ?_ | refine g_block ?_ | refine g_ret ?_ | refine g_return_n ?_ | refine g_exit ?_ | refine g_skip ?_)
              repeat (first | refine g_endt ?_ | refine g_end ?_ | refine g_then ?_ | refine g_in_normal ?_ | refine g_then_ret ?_ | refine g_in_ret ?_ | refine g_then_exit ?_ | refine g_in_exit rfl ?_ | refine g_in_exit_ne (by decide) ?_ | refine g_seq ?_ | refine g_region ?_ | refine g_block ?_ | refine g_ret ?_ | refine g_return_n ?_ | refine g_exit ?_ | refine g_skip ?_)
              refine g_hideR fun Q_ hQ_ => ?_
              refine o_move ?_
              refine o_add (c := ((k + 1 : Nat) : Int)) rfl rfl (by omega) (by omega) (by omega) ?_
              refine o_assign ?_
              refine g_end (G.imp (hQ_ .normal _) ?_)
              clear hQ_ Q_
              try refine g_then ?_
              repeat (first | refine g_endt ?_ | refine g_end ?_ | refine g_then ?_ | refine g_in_normal ?_ | refine g_then_ret ?_ | refine g_in_ret ?_ | refine g_then_exit ?_ | refine g_in_exit rfl ?_ | refine g_in_exit_ne (by decide) ?_ | refine g_seq ?_ | refine g_region ?_ | refine g_block ?_ | refine g_ret ?_ | refine g_return_n ?_ | refine g_exit ?_ | refine g_skip ?_)
              exact g_meets ⟨(k + 1, zs.set k (-7)), hkn, by rw [List.length_set]; exact hzl⟩ (by show q.i.r.len - (k + 1) < q.i.r.len - k; omega) (Sat.mem ⟨rfl, rfl, rfl, rfl, rfl, rfl, rfl, trivial⟩)
            · skip
              repeat (first | refine g_endt ?_ | refine g_end ?_ | refine g_then ?_ | refine g_in_normal ?_ | refine g_then_ret ?_ | refine g_in_ret ?_ | refine g_then_exit ?_ | refine g_in_exit rfl ?_ | refine g_in_exit_ne (by decide) ?_ | refine g_seq ?_ | refine g_region ?_ | refine g_block ?_ | refine g_ret ?_ | refine g_return_n ?_ | refine g_exit ?_ | refine g_skip ?_)
              refine g_hideR fun Q_ hQ_ => ?_
              refine o_move ?_
              first | refine o_field rfl ?_ | refine o_fieldR rfl (by omega) ?_
              refine o_load1 (v := .slice S1 q.i.r.len e1) rfl rfl ?_
              refine o_len rfl rfl ?_
              refine o_lssT (t := false) rfl rfl (decide_eq_false (by omega)) ?_
              refine g_end (G.imp (hQ_ .normal _) ?_)
              clear hQ_ Q_
              try refine g_then ?_
              first | refine g_seq (g_cond_f rfl (by first | rfl | (simp; done) | (simp; omega) | (simp; assumption)) ?_) | refine g_cond_f rfl (by first | rfl | (simp; done) | (simp; omega) | (simp; assumption)) ?_
              repeat (first | refine g_endt ?_ | refine g_end ?_ | refine g_then ?_ | refine g_in_normal ?_ | refine g_then_ret ?_ | refine g_in_ret ?_ | refine g_then_exit ?_ | refine g_in_exit rfl ?_ | refine g_in_exit_ne (by decide) ?_ | refine g_seq ?_ | refine g_region ?_ | refine g_block ?_ | refine g_ret ?_ | refine g_return_n ?_ | refine g_exit ?_ | refine g_skip ?_)
              exact g_meets () trivial (Sat.mem ⟨rfl, rfl, rfl, rfl, rfl, trivial⟩)
        · first | refine g_seq (g_cond_f rfl (by simpa using hw3) ?_) | refine g_cond_f rfl (by simpa using hw3) ?_
          by_cases h3 : w = 3
          · have hst3 : stepI room (next, ls) q = (next, dropL ls q.ns.zs) := by unfold stepI; rw [if_pos (hdo.trans h3)]
            obtain ⟨rfl, rfl⟩ : next = next' ∧ dropL ls q.ns.zs = ls' := by rw [hst3] at hst2; injection hst2 with a b; exact ⟨a, b⟩
            refine G.rowG (enc := encI) (sz := 1) hnr ?_
            repeat (first | refine g_endt ?_ | refine g_end ?_ | refine g_then ?_ | refine g_in_normal ?_ | refine g_then_ret ?_ | refine g_in_ret ?_ | refine g_then_exit ?_ | refine g_in_exit rfl ?_ | refine g_in_exit_ne (by decide) ?_ | refine g_seq ?_ | refine g_region ?_ | refine g_block ?_ | refine g_ret ?_ | refine g_return_n ?_ | refine g_exit ?_ | refine g_skip ?_)
            refine g_hideR fun Q_ hQ_ => ?_
            refine o_eqlT (t := true) rfl rfl (by rw [h3]; rfl) ?_
            refine o_assign ?_
            refine g_end (G.imp (hQ_ .normal _) ?_)
            clear hQ_ Q_
            try refine g_then ?_
            first | refine g_seq (g_cond_t rfl (by first | rfl | (simp; done) | (simp; omega) | (simp; assumption)) ?_) | refine g_cond_t rfl (by first | rfl | (simp; done) | (simp; omega) | (simp; assumption)) ?_
            repeat (first | refine g_endt ?_ | refine g_end ?_ | refine g_then ?_ | refine g_in_normal ?_ | refine g_then_ret ?_ | refine g_in_ret ?_ | refine g_then_exit ?_ | refine g_in_exit rfl ?_ | refine g_in_exit_ne (by decide) ?_ | refine g_seq ?_ | refine g_region ?_ | refine g_block ?_ | refine g_ret ?_ | refine g_return_n ?_ | refine g_exit ?_ | refine g_skip ?_)
            refine g_hide fun Q_ hQ_ => ?_
            refine g_draw [3,7] [0,1,2,4,5,6,3,7,8,9] [cAct c8 q] mixed rfl ?_
            refine ob_q rfl rfl ⟨_, fun X Q h => o_move (g_end (h _ _ ⟨rfl, rfl⟩)), ?_⟩
            first | refine ob_q rfl rfl ⟨_, fun X Q h => o_field rfl (g_end (h _ _ ⟨rfl, rfl⟩)), ?_⟩ | refine ob_q rfl rfl ⟨_, fun X Q h => o_fieldR rfl (by omega) (g_end (h _ _ ⟨rfl, rfl⟩)), ?_⟩
            refine ob_q rfl rfl ⟨_, fun X Q h => o_load1 (v := .slice q.ns.a q.ns.len q.ns.cap) rfl rfl (g_end (h _ _ ⟨rfl, rfl⟩)), ?_⟩
            refine ob_q rfl rfl ⟨_, fun X Q h => o_move (g_end (h _ _ ⟨rfl, rfl⟩)), ?_⟩
            first | refine ob_q rfl rfl ⟨_, fun X Q h => o_field rfl (g_end (h _ _ ⟨rfl, rfl⟩)), ?_⟩ | refine ob_q rfl rfl ⟨_, fun X Q h => o_fieldR rfl (by omega) (g_end (h _ _ ⟨rfl, rfl⟩)), ?_⟩
            refine ob_q rfl rfl ⟨_, fun X Q h => o_load1 (v := .slice q.ns.a q.ns.len q.ns.cap) rfl rfl (g_end (h _ _ ⟨rfl, rfl⟩)), ?_⟩
            refine ob_l rfl rfl fun Qz hz => o_call (Drop14_spec s room next ls (by omega) q.ns.a q.ns.len q.ns.cap q.ns.zs rl (by omega) rfl rfl) rfl rfl ?_
            rintro _ _ ⟨rfl, rfl⟩
            refine g_end (hz _ _ ⟨_, ob_fin, ?_⟩)
            clear hz Qz
            refine ob_l rfl rfl fun Qz hz => o_call (DropR14_spec r room next ls (by omega) q.ns.a q.ns.len q.ns.cap q.ns.zs rl (by omega) rfl rfl) rfl rfl ?_
            rintro _ _ ⟨rfl, rfl⟩
            refine g_end (hz _ _ ⟨_, ob_fin, ?_⟩)
            clear hz Qz
            refine ob_q rfl rfl ⟨_, fun X Q h => o_eqlT (t := true) rfl rfl (by simp) (g_end (h _ _ ⟨rfl, rfl⟩)), ?_⟩
            refine ob_q rfl rfl ⟨_, fun X Q h => o_assign (g_end (h _ _ ⟨rfl, rfl⟩)), ?_⟩
            refine ob_nil ?_
            refine G.imp (hQ_ .normal _) ?_
            clear hQ_ Q_
            try refine g_then ?_
            repeat (first | refine g_endt ?_ | refine g_end ?_ | refine g_then ?_ | refine g_in_normal ?_ | refine g_then_ret ?_ | refine g_in_ret ?_ | refine g_then_exit ?_ | refine g_in_exit rfl ?_ | refine g_in_exit_ne (by decide) ?_ | refine g_seq ?_ | refine g_region ?_ | refine g_block ?_ | refine g_ret ?_ | refine g_return_n ?_ | refine g_exit ?_ | refine g_skip ?_)
            exact g_meets () trivial (Sat.mem ⟨rfl, rfl, rfl, rfl, rfl, trivial⟩)
          repeat (first | refine g_endt ?_ | refine g_end ?_ | refine g_then ?_ | refine g_in_normal ?_ | refine g_then_ret ?_ | refine g_in_ret ?_ | refine g_then_exit ?_ | refine g_in_exit rfl ?_ | refine g_in_exit_ne (by decide) ?_ | refine g_seq ?_ | refine g_region ?_ | refine g_block ?_ | refine g_ret ?_ | refine g_return_n ?_ | refine g_exit ?_ | refine g_skip ?_)
          refine g_hideR fun Q_ hQ_ => ?_
          refine o_eqlT (t := false) rfl rfl (by simp; omega) ?_
          refine o_assign ?_
          refine g_end (G.imp (hQ_ .normal _) ?_)
          clear hQ_ Q_
          try refine g_then ?_
          first | refine g_seq (g_cond_f rfl (by first | rfl | (simp; done) | (simp; omega) | (simp; assumption)) ?_) | refine g_cond_f rfl (by first | rfl | (simp; done) | (simp; omega) | (simp; assumption)) ?_
          by_cases h4 : w = 4
          · have hst3 : stepI room (next, ls) q = (next, dropL ls (cutN ls q.n)) := by unfold stepI; rw [if_neg (by rw [hdo]; exact h3), if_pos (hdo.trans h4)]
            obtain ⟨rfl, rfl⟩ : next = next' ∧ dropL ls (cutN ls q.n) = ls' := by rw [hst3] at hst2; injection hst2 with a b; exact ⟨a, b⟩
            have hgl : (cutN ls q.n).length ≤ ls.length := by unfold cutN; rw [List.length_map]; exact List.length_filter_le _ _
            obtain ⟨gs, hgs⟩ : ∃ gs, cutN ls q.n = gs := ⟨_, rfl⟩
            rw [hgs] at hgl ⊢
            repeat (first | refine g_endt ?_ | refine g_end ?_ | refine g_then ?_ | refine g_in_normal ?_ | refine g_then_ret ?_ | refine g_in_ret ?_ | refine g_then_exit ?_ | refine g_in_exit rfl ?_ | refine g_in_exit_ne (by decide) ?_ | refine g_seq ?_ | refine g_region ?_ | refine g_block ?_ | refine g_ret ?_ | refine g_return_n ?_ | refine g_exit ?_ | refine g_skip ?_)
            refine g_hideR fun Q_ hQ_ => ?_
            refine o_eqlT (t := true) rfl rfl (by rw [h4]; rfl) ?_
            refine o_assign ?_
            refine g_end (G.imp (hQ_ .normal _) ?_)
            clear hQ_ Q_
            try refine g_then ?_
            first | refine g_seq (g_cond_t rfl (by first | rfl | (simp; done) | (simp; omega) | (simp; assumption)) ?_) | refine g_cond_t rfl (by first | rfl | (simp; done) | (simp; omega) | (simp; assumption)) ?_
            repeat (first | refine g_endt ?_ | refine g_end ?_ | refine g_then ?_ | refine g_in_normal ?_ | refine g_then_ret ?_ | refine g_in_ret ?_ | refine g_then_exit ?_ | refine g_in_exit rfl ?_ | refine g_in_exit_ne (by decide) ?_ | refine g_seq ?_ | refine g_region ?_ | refine g_block ?_ | refine g_ret ?_ | refine g_return_n ?_ | refine g_exit ?_ | refine g_skip ?_)
            refine g_hide fun Q_ hQ_ => ?_
            refine g_draw [3,7,8] [0,1,2,4,5,6,3,7,8,9] [cAct c8 q] mixed rfl ?_
            refine ob_q rfl rfl ⟨_, fun X Q h => o_move (g_end (h _ _ ⟨rfl, rfl⟩)), ?_⟩
            first | refine ob_q rfl rfl ⟨_, fun X Q h => o_field rfl (g_end (h _ _ ⟨rfl, rfl⟩)), ?_⟩ | refine ob_q rfl rfl ⟨_, fun X Q h => o_fieldR rfl (by omega) (g_end (h _ _ ⟨rfl, rfl⟩)), ?_⟩
            refine ob_q rfl rfl ⟨_, fun X Q h => o_load1 (v := .int .i64 q.n) rfl rfl (g_end (h _ _ ⟨rfl, rfl⟩)), ?_⟩
            refine ob_q rfl rfl ⟨_, fun X Q h => o_move (g_end (h _ _ ⟨rfl, rfl⟩)), ?_⟩
            first | refine ob_q rfl rfl ⟨_, fun X Q h => o_field rfl (g_end (h _ _ ⟨rfl, rfl⟩)), ?_⟩ | refine ob_q rfl rfl ⟨_, fun X Q h => o_fieldR rfl (by omega) (g_end (h _ _ ⟨rfl, rfl⟩)), ?_⟩
            refine ob_q rfl rfl ⟨_, fun X Q h => o_load1 (v := .int .i64 q.n) rfl rfl (g_end (h _ _ ⟨rfl, rfl⟩)), ?_⟩
            refine ob_l rfl rfl fun Qz hz => o_call (Cut14_spec s room next ls (by omega) q.n hgs rfl) rfl rfl ?_
            rintro _ _ ⟨S1, e1, rfl, rfl⟩
            refine g_end (hz _ _ ⟨_, ob_fin, ?_⟩)
            clear hz Qz
            refine ob_l rfl rfl fun Qz hz => o_call (CutR14_spec r room next ls (by omega) q.n hgs rfl) rfl rfl ?_
            rintro _ _ ⟨S2, e2, rfl, rfl⟩
            refine g_end (hz _ _ ⟨_, ob_fin, ?_⟩)
            clear hz Qz
            refine ob_l rfl rfl fun Qz hz => o_callp (Ints_spec S1 S2 gs.length e1 e2 gs rfl (by omega)) rfl rfl ?_
            rintro _ _ ⟨rfl, rfl⟩
            refine g_end (hz _ _ ⟨_, ob_fin, ?_⟩)
            clear hz Qz
            refine ob_q rfl rfl ⟨_, fun X Q h => o_assign (g_end (h _ _ ⟨rfl, rfl⟩)), ?_⟩
            refine ob_nil ?_
            refine G.imp (hQ_ .normal _) ?_
            clear hQ_ Q_
            try refine g_then ?_
            repeat (first | refine g_endt ?_ | refine g_end ?_ | refine g_then ?_ | refine g_in_normal ?_ | refine g_then_ret ?_ | refine g_in_ret ?_ | refine g_then_exit ?_ | refine g_in_exit rfl ?_ | refine g_in_exit_ne (by decide) ?_ | refine g_seq ?_ | refine g_region ?_ | refine g_block ?_ | refine g_ret ?_ | refine g_return_n ?_ | refine g_exit ?_ | refine g_skip ?_)
            exact g_meets () trivial (Sat.mem ⟨rfl, rfl, rfl, rfl, rfl, trivial⟩)
          · have h5 : w = 5 := by omega
            have hst3 : stepI room (next, ls) q = (next, ls) := by unfold stepI; rw [if_neg (by rw [hdo]; exact h3), if_neg (by rw [hdo]; exact h4), if_pos (hdo.trans h5)]
            obtain ⟨rfl, rfl⟩ : next = next' ∧ ls = ls' := by rw [hst3] at hst2; injection hst2 with a b; exact ⟨a, b⟩
            repeat (first | refine g_endt ?_ | refine g_end ?_ | refine g_then ?_ | refine g_in_normal ?_ | refine g_then_ret ?_ | refine g_in_ret ?_ | refine g_then_exit ?_ | refine g_in_exit rfl ?_ | refine g_in_exit_ne (by decide) ?_ | refine g_seq ?_ | refine g_region ?_ | refine g_block ?_ | refine g_ret ?_ | refine g_return_n ?_ | refine g_exit ?_ | refine g_skip ?_)
            refine g_hideR fun Q_ hQ_ => ?_
            refine o_eqlT (t := false) rfl rfl (by simp; omega) ?_
            refine o_assign ?_
            refine g_end (G.imp (hQ_ .normal _) ?_)
            clear hQ_ Q_
            try refine g_then ?_
            first | refine g_seq (g_cond_f rfl (by first | rfl | (simp; done) | (simp; omega) | (simp; assumption)) ?_) | refine g_cond_f rfl (by first | rfl | (simp; done) | (simp; omega) | (simp; assumption)) ?_
            obtain ⟨o, ho⟩ : ∃ o, getL ls q.n = o := ⟨_, rfl⟩
            have hgt : (o.getD zeroI).tags.length ≤ 20 := by
              cases o with
              | none => exact Nat.zero_le _
              | some x => exact htag x (List.mem_of_find?_eq_some ho)
            obtain ⟨g, hg⟩ : ∃ g, o.getD zeroI = g := ⟨_, rfl⟩
            have hget := Get14_spec s room next ls (by omega) htag2 q.n ho
            rw [hg] at hget hgt
            repeat (first | refine g_endt ?_ | refine g_end ?_ | refine g_then ?_ | refine g_in_normal ?_ | refine g_then_ret ?_ | refine g_in_ret ?_ | refine g_then_exit ?_ | refine g_in_exit rfl ?_ | refine g_in_exit_ne (by decide) ?_ | refine g_seq ?_ | refine g_region ?_ | refine g_block ?_ | refine g_ret ?_ | refine g_return_n ?_ | refine g_exit ?_ | refine g_skip ?_)
            refine g_hideR fun Q_ hQ_ => ?_
            refine o_move ?_
            first | refine o_field rfl ?_ | refine o_fieldR rfl (by omega) ?_
            refine o_load1 (v := .int .i64 q.n) rfl rfl ?_
            refine o_call (hget) rfl rfl ?_
            rintro _ _ ⟨S1, e1, rfl, rfl⟩
            refine o_move ?_
            refine o_extract rfl rfl ?_
            refine o_extract rfl rfl ?_
            refine o_alloc fun c13 => ?_
            refine o_store (v := (InstV.mk g.num g.level g.name S1 g.tags.length e1 g.o).val) rfl rfl rfl rfl rfl ?_
            refine o_assign ?_
            refine g_end (G.imp (hQ_ .normal _) ?_)
            clear hQ_ Q_
            try refine g_then ?_
            refine G.norm c13 (InstV.mk g.num g.level g.name S1 g.tags.length e1 g.o).val.cells rfl ?_
            repeat (first | refine g_endt ?_ | refine g_end ?_ | refine g_then ?_ | refine g_in_normal ?_ | refine g_then_ret ?_ | refine g_in_ret ?_ | refine g_then_exit ?_ | refine g_in_exit rfl ?_ | refine g_in_exit_ne (by decide) ?_ | refine g_seq ?_ | refine g_region ?_ | refine g_block ?_ | refine g_ret ?_ | refine g_return_n ?_ | refine g_exit ?_ | refine g_skip ?_)
            refine g_hideR fun Q_ hQ_ => ?_
            refine o_build (zeroD.val) (fun w => by kernel_rfl) ?_
            refine o_alloc fun c15 => ?_
            refine o_store (v := zeroD.val) rfl rfl rfl rfl rfl ?_
            refine g_end (G.imp (hQ_ .normal _) ?_)
            clear hQ_ Q_
            try refine g_then ?_
            refine G.norm c15 zeroD.iv.val.cells rfl ?_
            refine openRI r room next ls fun a c0 => ?_
            refine openIl a ls fun ds hds hrs => ?_
            have hdl : ds.length = ls.length := by rw [← hds, List.length_map]
            rw [← hdl]
            rw [← hds] at hsrt
            repeat (first | refine g_endt ?_ | refine g_end ?_ | refine g_then ?_ | refine g_in_normal ?_ | refine g_then_ret ?_ | refine g_in_ret ?_ | refine g_then_exit ?_ | refine g_in_exit rfl ?_ | refine g_in_exit_ne (by decide) ?_ | refine g_seq ?_ | refine g_region ?_ | refine g_block ?_ | refine g_ret ?_ | refine g_return_n ?_ | refine g_exit ?_ | refine g_skip ?_)
            refine g_hideR fun Q_ hQ_ => ?_
            refine o_assign ?_
            refine g_end (G.imp (hQ_ .normal _) ?_)
            clear hQ_ Q_
            try refine g_then ?_
            refine g_cut (σ := Unit) (ds' := []) (S := fun _ => [(0, .pointer (some ⟨s, 0, none⟩)), (1, .pointer (some ⟨r, 0, none⟩)), (2, .slice A n c), (7, .int .i64 (i : Int)), (13, .pointer (some ⟨c13, 0, none⟩)), (14, .bool o.isSome), (15, .pointer (some ⟨c15, 0, none⟩)), (16, .bool (findD ds q.n).isSome)]) (H := fun _ => oI S1 e1 g.tags :: cIn c13 (InstV.mk g.num g.level g.name S1 g.tags.length e1 g.o) :: cIn c15 ((findD ds q.n).getD zeroD).iv :: rI r room next a ds.length c0 :: psl encID 5 a ds :: prowsG encI 1 (ds.map InstD.r) :: StP s room next ls :: acK A ys) (ok := fun _ => True) ?_ ?_
            · skip
              repeat (first | refine g_endt ?_ | refine g_end ?_ | refine g_then ?_ | refine g_in_normal ?_ | refine g_then_ret ?_ | refine g_in_ret ?_ | refine g_then_exit ?_ | refine g_in_exit rfl ?_ | refine g_in_exit_ne (by decide) ?_ | refine g_seq ?_ | refine g_region ?_ | refine g_block ?_ | refine g_ret ?_ | refine g_return_n ?_ | refine g_exit ?_ | refine g_skip ?_)
              refine g_hideR fun Q_ hQ_ => ?_
              refine o_assign ?_
              refine g_end (G.imp (hQ_ .normal _) ?_)
              clear hQ_ Q_
              try refine g_then ?_
              repeat (first | refine g_endt ?_ | refine g_end ?_ | refine g_then ?_ | refine g_in_normal ?_ | refine g_then_ret ?_ | refine g_in_ret ?_ | refine g_then_exit ?_ | refine g_in_exit rfl ?_ | refine g_in_exit_ne (by decide) ?_ | refine g_seq ?_ | refine g_region ?_ | refine g_block ?_ | refine g_ret ?_ | refine g_return_n ?_ | refine g_exit ?_ | refine g_skip ?_)
              refine g_loop (σ := {z : Nat × Option InstD // z.1 ≤ ds.length ∧ findD (ds.take z.1) q.n = z.2}) (S := fun z => [(0, .pointer (some ⟨s, 0, none⟩)), (1, .pointer (some ⟨r, 0, none⟩)), (2, .slice A n c), (7, .int .i64 (i : Int)), (8, .pointer (some ⟨c8, 0, none⟩)), (13, .pointer (some ⟨c13, 0, none⟩)), (14, .bool o.isSome), (15, .pointer (some ⟨c15, 0, none⟩)), (16, .bool z.1.2.isSome), (17, .int .i64 (z.1.1 : Int))])
                (H := fun z => cAct c8 q :: oI S1 e1 g.tags :: cIn c13 (InstV.mk g.num g.level g.name S1 g.tags.length e1 g.o) :: cIn c15 (z.1.2.getD zeroD).iv :: rI r room next a ds.length c0 :: psl encID 5 a ds :: prowsG encI 1 (ds.map InstD.r) :: StP s room next ls :: acK A ys) (μ := fun z => ds.length - z.1.1) (s0 := ⟨(0, none), Nat.zero_le _, rfl⟩) (Sat.mem ⟨rfl, rfl, rfl, rfl, rfl, rfl, rfl, rfl, rfl, rfl, trivial⟩) (t := by
                show Take _ (cAct c8 q :: oI S1 e1 g.tags :: cIn c13 (InstV.mk g.num g.level g.name S1 g.tags.length e1 g.o) :: cIn c15 zeroD.iv :: rI r room next a ds.length c0 :: psl encID 5 a ds :: prowsG encI 1 (ds.map InstD.r) :: StP s room next ls :: acK A ys) _
                infer_instance) ?_
              rintro ⟨⟨k, o2⟩, hk, ho2⟩ ρ3
              dsimp only at hk ho2 ⊢
              by_cases hkn : k < ds.length
              · skip
                repeat (first | refine g_endt ?_ | refine g_end ?_ | refine g_then ?_ | refine g_in_normal ?_ | refine g_then_ret ?_ | refine g_in_ret ?_ | refine g_then_exit ?_ | refine g_in_exit rfl ?_ | refine g_in_exit_ne (by decide) ?_ | refine g_seq ?_ | refine g_region ?_ | refine g_block ?_ | refine g_ret ?_ | refine g_return_n ?_ | refine g_exit ?_ | refine g_skip ?_)
                refine g_hideR fun Q_ hQ_ => ?_
                refine o_move ?_
                refine o_move ?_
                refine o_nil rfl ?_
                first | refine o_field rfl ?_ | refine o_fieldR rfl (by omega) ?_
                refine o_load1 (v := .slice a ds.length c0) rfl rfl ?_
                refine o_len rfl rfl ?_
                refine o_lssT (t := true) rfl rfl (decide_eq_true (by omega)) ?_
                refine g_end (G.imp (hQ_ .normal _) ?_)
                clear hQ_ Q_
                try refine g_then ?_
                first | refine g_seq (g_cond_t rfl (by first | rfl | (simp; done) | (simp; omega) | (simp; assumption)) ?_) | refine g_cond_t rfl (by first | rfl | (simp; done) | (simp; omega) | (simp; assumption)) ?_
                repeat (first | refine g_endt ?_ | refine g_end ?_ | refine g_then ?_ | refine g_in_normal ?_ | refine g_then_ret ?_ | refine g_in_ret ?_ | refine g_then_exit ?_ | refine g_in_exit rfl ?_ | refine g_in_exit_ne (by decide) ?_ | refine g_seq ?_ | refine g_region ?_ | refine g_block ?_ | refine g_ret ?_ | refine g_return_n ?_ | refine g_exit ?_ | refine g_skip ?_)
                obtain ⟨d, hd⟩ : ∃ d, ds[k]? = some d := ⟨_, List.getElem?_eq_getElem hkn⟩
                have hnx := findD_take (n := q.n) hsrt hd
                rw [ho2] at hnx
                by_cases hdn : d.num = q.n
                · rw [if_pos hdn] at hnx
                  repeat (first | refine g_endt ?_ | refine g_end ?_ | refine g_then ?_ | refine g_in_normal ?_ | refine g_then_ret ?_ | refine g_in_ret ?_ | refine g_then_exit ?_ | refine g_in_exit rfl ?_ | refine g_in_exit_ne (by decide) ?_ | refine g_seq ?_ | refine g_region ?_ | refine g_block ?_ | refine g_ret ?_ | refine g_return_n ?_ | refine g_exit ?_ | refine g_skip ?_)
                  refine g_hide fun Q_ hQ_ => ?_
                  refine g_draw [] [0,1,2,3,4,5,6,7,8,9,10] [rI r room next a ds.length c0, psl encID 5 a ds, cAct c8 q] mixed rfl ?_
                  refine ob_q rfl rfl ⟨_, fun X Q h => o_move (g_end (h _ _ ⟨rfl, rfl⟩)), ?_⟩
                  refine ob_q rfl rfl ⟨_, fun X Q h => o_nil rfl (g_end (h _ _ ⟨rfl, rfl⟩)), ?_⟩
                  first | refine ob_q rfl rfl ⟨_, fun X Q h => o_field rfl (g_end (h _ _ ⟨rfl, rfl⟩)), ?_⟩ | refine ob_q rfl rfl ⟨_, fun X Q h => o_fieldR rfl (by omega) (g_end (h _ _ ⟨rfl, rfl⟩)), ?_⟩
                  refine ob_q rfl rfl ⟨_, fun X Q h => o_load1 (v := .slice a ds.length c0) rfl rfl (g_end (h _ _ ⟨rfl, rfl⟩)), ?_⟩
                  refine ob_q rfl rfl ⟨_, fun X Q h => o_move (g_end (h _ _ ⟨rfl, rfl⟩)), ?_⟩
                  refine ob_q rfl rfl ⟨_, fun X Q h => o_indexR (ys := ds) (i := k) rfl rfl rfl hkn rfl rfl (g_end (h _ _ ⟨rfl, rfl⟩)), ?_⟩
                  refine ob_q rfl rfl ⟨_, fun X Q h => o_fieldR (ys := ds) rfl (by omega) (g_end (h _ _ ⟨rfl, rfl⟩)), ?_⟩
                  refine ob_q rfl rfl ⟨_, fun X Q h => o_loadE1 (ys := ds) (i := k) (off := 0) (v := .int .i64 d.num) rfl hd rfl (g_end (h _ _ ⟨rfl, rfl⟩)), ?_⟩
                  first | refine ob_q rfl rfl ⟨_, fun X Q h => o_field rfl (g_end (h _ _ ⟨rfl, rfl⟩)), ?_⟩ | refine ob_q rfl rfl ⟨_, fun X Q h => o_fieldR rfl (by omega) (g_end (h _ _ ⟨rfl, rfl⟩)), ?_⟩
                  refine ob_q rfl rfl ⟨_, fun X Q h => o_load1 (v := .int .i64 q.n) rfl rfl (g_end (h _ _ ⟨rfl, rfl⟩)), ?_⟩
                  refine ob_q rfl rfl ⟨_, fun X Q h => o_eqlT (t := true) rfl rfl (by simpa using hdn) (g_end (h _ _ ⟨rfl, rfl⟩)), ?_⟩
                  refine ob_nil ?_
                  refine G.imp (hQ_ .normal _) ?_
                  clear hQ_ Q_
                  try refine g_then ?_
                  first | refine g_seq (g_cond_t rfl (by first | rfl | (simp; done) | (simp; omega) | (simp; assumption)) ?_) | refine g_cond_t rfl (by first | rfl | (simp; done) | (simp; omega) | (simp; assumption)) ?_
                  repeat (first | refine g_endt ?_ | refine g_end ?_ | refine g_then ?_ | refine g_in_normal ?_ | refine g_then_ret ?_ | refine g_in_ret ?_ | refine g_then_exit ?_ | refine g_in_exit rfl ?_ | refine g_in_exit_ne (by decide) ?_ | refine g_seq ?_ | refine g_region ?_ | refine g_block ?_ | refine g_ret ?_ | refine g_return_n ?_ | refine g_exit ?_ | refine g_skip ?_)
                  refine g_hideR fun Q_ hQ_ => ?_
                  refine o_move ?_
                  refine o_nil rfl ?_
                  first | refine o_field rfl ?_ | refine o_fieldR rfl (by omega) ?_
                  refine o_load1 (v := .slice a ds.length c0) rfl rfl ?_
                  refine o_move ?_
                  refine o_indexR (ys := ds) (i := k) rfl rfl rfl hkn rfl rfl ?_
                  refine o_loadE (ys := ds) rfl rfl hd ?_
                  refine o_store (v := d.val) rfl rfl rfl rfl rfl ?_
                  refine o_assign ?_
                  refine g_end (G.imp (hQ_ .normal _) ?_)
                  clear hQ_ Q_
                  try refine g_then ?_
                  refine G.norm c15 d.iv.val.cells rfl ?_
                  repeat (first | refine g_endt ?_ | refine g_end ?_ | refine g_then ?_ | refine g_in_normal ?_ | refine g_then_ret ?_ | refine g_in_ret ?_ | refine g_then_exit ?_ | refine g_in_exit rfl ?_ | refine g_in_exit_ne (by decide) ?_ | refine g_seq ?_ | refine g_region ?_ | refine g_block ?_ | refine g_ret ?_ | refine g_return_n ?_ | refine g_exit ?_ | refine g_skip ?_)
                  repeat (first | refine g_endt ?_ | refine g_end ?_ | refine g_then ?_ | refine g_in_normal ?_ | refine g_then_ret ?_ | refine g_in_ret ?_ | refine g_then_exit ?_ | refine g_in_exit rfl ?_ | refine g_in_exit_ne (by decide) ?_ | refine g_seq ?_ | refine g_region ?_ | refine g_block ?_ | refine g_ret ?_ | refine g_return_n ?_ | refine g_exit ?_ | refine g_skip ?_)
                  refine g_hideR fun Q_ hQ_ => ?_
                  refine o_move ?_
                  refine o_add (c := ((k + 1 : Nat) : Int)) rfl rfl (by omega) (by omega) (by omega) ?_
                  refine o_assign ?_
                  refine g_end (G.imp (hQ_ .normal _) ?_)
                  clear hQ_ Q_
                  try refine g_then ?_
                  repeat (first | refine g_endt ?_ | refine g_end ?_ | refine g_then ?_ | refine g_in_normal ?_ | refine g_then_ret ?_ | refine g_in_ret ?_ | refine g_then_exit ?_ | refine g_in_exit rfl ?_ | refine g_in_exit_ne (by decide) ?_ | refine g_seq ?_ | refine g_region ?_ | refine g_block ?_ | refine g_ret ?_ | refine g_return_n ?_ | refine g_exit ?_ | refine g_skip ?_)
                  exact g_meets ⟨(k + 1, some d), hkn, hnx⟩ (by show ds.length - (k + 1) < ds.length - k; omega) (Sat.mem ⟨rfl, rfl, rfl, rfl, rfl, rfl, rfl, rfl, rfl, rfl, trivial⟩) (t := by
                    show Take _ (cAct c8 q :: oI S1 e1 g.tags :: cIn c13 (InstV.mk g.num g.level g.name S1 g.tags.length e1 g.o) :: cIn c15 d.iv :: rI r room next a ds.length c0 :: psl encID 5 a ds :: prowsG encI 1 (ds.map InstD.r) :: StP s room next ls :: acK A ys) _
                    infer_instance)
                · rw [if_neg hdn] at hnx
                  repeat (first | refine g_endt ?_ | refine g_end ?_ | refine g_then ?_ | refine g_in_normal ?_ | refine g_then_ret ?_ | refine g_in_ret ?_ | refine g_then_exit ?_ | refine g_in_exit rfl ?_ | refine g_in_exit_ne (by decide) ?_ | refine g_seq ?_ | refine g_region ?_ | refine g_block ?_ | refine g_ret ?_ | refine g_return_n ?_ | refine g_exit ?_ | refine g_skip ?_)
                  refine g_hide fun Q_ hQ_ => ?_
                  refine g_draw [] [0,1,2,3,4,5,6,7,8,9,10] [rI r room next a ds.length c0, psl encID 5 a ds, cAct c8 q] mixed rfl ?_
                  refine ob_q rfl rfl ⟨_, fun X Q h => o_move (g_end (h _ _ ⟨rfl, rfl⟩)), ?_⟩
                  refine ob_q rfl rfl ⟨_, fun X Q h => o_nil rfl (g_end (h _ _ ⟨rfl, rfl⟩)), ?_⟩
                  first | refine ob_q rfl rfl ⟨_, fun X Q h => o_field rfl (g_end (h _ _ ⟨rfl, rfl⟩)), ?_⟩ | refine ob_q rfl rfl ⟨_, fun X Q h => o_fieldR rfl (by omega) (g_end (h _ _ ⟨rfl, rfl⟩)), ?_⟩
                  refine ob_q rfl rfl ⟨_, fun X Q h => o_load1 (v := .slice a ds.length c0) rfl rfl (g_end (h _ _ ⟨rfl, rfl⟩)), ?_⟩
                  refine ob_q rfl rfl ⟨_, fun X Q h => o_move (g_end (h _ _ ⟨rfl, rfl⟩)), ?_⟩
                  refine ob_q rfl rfl ⟨_, fun X Q h => o_indexR (ys := ds) (i := k) rfl rfl rfl hkn rfl rfl (g_end (h _ _ ⟨rfl, rfl⟩)), ?_⟩
                  refine ob_q rfl rfl ⟨_, fun X Q h => o_fieldR (ys := ds) rfl (by omega) (g_end (h _ _ ⟨rfl, rfl⟩)), ?_⟩
                  refine ob_q rfl rfl ⟨_, fun X Q h => o_loadE1 (ys := ds) (i := k) (off := 0) (v := .int .i64 d.num) rfl hd rfl (g_end (h _ _ ⟨rfl, rfl⟩)), ?_⟩
                  first | refine ob_q rfl rfl ⟨_, fun X Q h => o_field rfl (g_end (h _ _ ⟨rfl, rfl⟩)), ?_⟩ | refine ob_q rfl rfl ⟨_, fun X Q h => o_fieldR rfl (by omega) (g_end (h _ _ ⟨rfl, rfl⟩)), ?_⟩
                  refine ob_q rfl rfl ⟨_, fun X Q h => o_load1 (v := .int .i64 q.n) rfl rfl (g_end (h _ _ ⟨rfl, rfl⟩)), ?_⟩
                  refine ob_q rfl rfl ⟨_, fun X Q h => o_eqlT (t := false) rfl rfl (by simpa using hdn) (g_end (h _ _ ⟨rfl, rfl⟩)), ?_⟩
                  refine ob_nil ?_
                  refine G.imp (hQ_ .normal _) ?_
                  clear hQ_ Q_
                  try refine g_then ?_
                  first | refine g_seq (g_cond_f rfl (by first | rfl | (simp; done) | (simp; omega) | (simp; assumption)) ?_) | refine g_cond_f rfl (by first | rfl | (simp; done) | (simp; omega) | (simp; assumption)) ?_
                  repeat (first | refine g_endt ?_ | refine g_end ?_ | refine g_then ?_ | refine g_in_normal ?_ | refine g_then_ret ?_ | refine g_in_ret ?_ | refine g_then_exit ?_ | refine g_in_exit rfl ?_ | refine g_in_exit_ne (by decide) ?_ | refine g_seq ?_ | refine g_region ?_ | refine g_block ?_ | refine g_ret ?_ | refine g_return_n ?_ | refine g_exit ?_ | refine g_skip ?_)
                  repeat (first | refine g_endt ?_ | refine g_end ?_ | refine g_then ?_ | refine g_in_normal ?_ | refine g_then_ret ?_ | refine g_in_ret ?_ | refine g_then_exit ?_ | refine g_in_exit rfl ?_ | refine g_in_exit_ne (by decide) ?_ | refine g_seq ?_ | refine g_region ?_ | refine g_block ?_ | refine g_ret ?_ | refine g_return_n ?_ | refine g_exit ?_ | refine g_skip ?_)
                  refine g_hideR fun Q_ hQ_ => ?_
                  refine o_move ?_
                  refine o_add (c := ((k + 1 : Nat) : Int)) rfl rfl (by omega) (by omega) (by omega) ?_
                  refine o_assign ?_
                  refine g_end (G.imp (hQ_ .normal _) ?_)
                  clear hQ_ Q_
                  try refine g_then ?_
                  repeat (first | refine g_endt ?_ | refine g_end ?_ | refine g_then ?_ | refine g_in_normal ?_ | refine g_then_ret ?_ | refine g_in_ret ?_ | refine g_then_exit ?_ | refine g_in_exit rfl ?_ | refine g_in_exit_ne (by decide) ?_ | refine g_seq ?_ | refine g_region ?_ | refine g_block ?_ | refine g_ret ?_ | refine g_return_n ?_ | refine g_exit ?_ | refine g_skip ?_)
                  exact g_meets ⟨(k + 1, o2), hkn, hnx⟩ (by show ds.length - (k + 1) < ds.length - k; omega) (Sat.mem ⟨rfl, rfl, rfl, rfl, rfl, rfl, rfl, rfl, rfl, rfl, trivial⟩)
              · skip
                repeat (first | refine g_endt ?_ | refine g_end ?_ | refine g_then ?_ | refine g_in_normal ?_ | refine g_then_ret ?_ | refine g_in_ret ?_ | refine g_then_exit ?_ | refine g_in_exit rfl ?_ | refine g_in_exit_ne (by decide) ?_ | refine g_seq ?_ | refine g_region ?_ | refine g_block ?_ | refine g_ret ?_ | refine g_return_n ?_ | refine g_exit ?_ | refine g_skip ?_)
                refine g_hideR fun Q_ hQ_ => ?_
                refine o_move ?_
                refine o_move ?_
                refine o_nil rfl ?_
                first | refine o_field rfl ?_ | refine o_fieldR rfl (by omega) ?_
                refine o_load1 (v := .slice a ds.length c0) rfl rfl ?_
                refine o_len rfl rfl ?_
                refine o_lssT (t := false) rfl rfl (decide_eq_false (by omega)) ?_
                refine g_end (G.imp (hQ_ .normal _) ?_)
                clear hQ_ Q_
                try refine g_then ?_
                first | refine g_seq (g_cond_f rfl (by first | rfl | (simp; done) | (simp; omega) | (simp; assumption)) ?_) | refine g_cond_f rfl (by first | rfl | (simp; done) | (simp; omega) | (simp; assumption)) ?_
                repeat (first | refine g_endt ?_ | refine g_end ?_ | refine g_then ?_ | refine g_in_normal ?_ | refine g_then_ret ?_ | refine g_in_ret ?_ | refine g_then_exit ?_ | refine g_in_exit rfl ?_ | refine g_in_exit_ne (by decide) ?_ | refine g_seq ?_ | refine g_region ?_ | refine g_block ?_ | refine g_ret ?_ | refine g_return_n ?_ | refine g_exit ?_ | refine g_skip ?_)
                have hoo : o2 = findD ds q.n := by rw [← ho2, List.take_of_length_le (by omega)]
                subst hoo
                exact g_meets () trivial (Sat.mem ⟨rfl, rfl, rfl, rfl, rfl, rfl, rfl, rfl, trivial⟩)
            · rintro _ ρ3 _
              have ho3 : (findD ds q.n).map InstD.pl = o := by rw [← findD_pl, hds]; exact ho
              obtain ⟨o2, hoo⟩ : ∃ o2, findD ds q.n = o2 := ⟨_, rfl⟩
              rw [hoo] at ho3 ⊢
              obtain ⟨dy, hdy⟩ : ∃ dy, o2.getD zeroD = dy := ⟨_, rfl⟩
              have hyg : dy.pl = g := by
                rw [← hg, ← ho3, ← hdy]
                cases o2 <;> rfl
              have hyr : ROk dy.r := by
                rw [← hdy]
                cases o2 with
                | none => exact ⟨rfl, Nat.zero_le _⟩
                | some d => exact hrs d.r (List.mem_map_of_mem (findD_mem hoo))
              have hss : o2.isSome = o.isSome := by rw [← ho3]; cases o2 <;> rfl
              rw [hdy, hss]
              obtain ⟨b, hb⟩ : ∃ b, o.isSome = b := ⟨_, rfl⟩
              rw [hb]
              obtain ⟨dx, hdx⟩ : ∃ dx : InstD, dx = ⟨g.num, g.level, g.name, ⟨S1, g.tags.length, e1, g.tags⟩, g.o⟩ := ⟨_, rfl⟩
              have hxg : dx.pl = g := by rw [hdx]; rfl
              have hxv : (InstV.mk g.num g.level g.name S1 g.tags.length e1 g.o) = dx.iv := by rw [hdx]; rfl
              have hxr : dx.r = ⟨S1, g.tags.length, e1, g.tags⟩ := by rw [hdx]
              rw [hxv]
              have hxl : dx.r.zs.length = dx.r.len := by rw [hxr]
              have hxm : dx.r.len ≤ 20 := by rw [hxr]; exact hgt
              rw [show oI S1 e1 g.tags = rwI false dx.r.a dx.r.cap dx.r.zs by rw [hxr]; rfl]
              refine G.bnil (fun d : InstD => rwI false d.r.a d.r.cap d.r.zs) ?_
              refine G.bshut [dx] (fun d : InstD => rwI false d.r.a d.r.cap d.r.zs) dx [] (List.Perm.refl _) ?_
              refine G.dup (prowsG encI 1 (ds.map InstD.r)) ?_
              refine G.psl_nil (α := Int) encI 1 ?_
              refine G.rowSnoc (enc := encI) (sz := 1) (rs := ds.map InstD.r) zeroD.r (tk := by show Take _ [prowsG encI 1 (ds.map InstD.r), psl encI 1 none []] _; infer_instance) ?_
              refine G.rowSub (enc := encI) (sz := 1) (ds.map InstD.r ++ [zeroD.r]) (rs2 := [dy].map InstD.r) (fun z hz => by
                rw [List.map_cons, List.map_nil, List.mem_singleton] at hz
                subst hz
                rw [← hdy]
                cases o2 with
                | none => simp
                | some d => exact List.mem_append_left _ (List.mem_map_of_mem (findD_mem hoo))) ?_
              have hxok : RowsOk ([dx].map InstD.r) := fun z hz => by
                rw [List.map_cons, List.map_nil, List.mem_singleton] at hz
                subst hz; exact ⟨hxl, by omega⟩
              have hyok : RowsOk ([dy].map InstD.r) := fun z hz => by
                rw [List.map_cons, List.map_nil, List.mem_singleton] at hz
                subst hz; exact hyr
              repeat (first | refine g_endt ?_ | refine g_end ?_ | refine g_then ?_ | refine g_in_normal ?_ | refine g_then_ret ?_ | refine g_in_ret ?_ | refine g_then_exit ?_ | refine g_in_exit rfl ?_ | refine g_in_exit_ne (by decide) ?_ | refine g_seq ?_ | refine g_region ?_ | refine g_block ?_ | refine g_ret ?_ | refine g_return_n ?_ | refine g_exit ?_ | refine g_skip ?_)
              refine g_hideR fun Q_ hQ_ => ?_
              refine o_move ?_
              refine o_move ?_
              refine o_eqty rfl rfl (eq_boolS b) ?_
              refine o_move ?_
              refine o_want rfl rfl rfl rfl rfl (o_loadN (v := dx.val) rfl rfl rfl ?_)
              refine o_want rfl rfl rfl rfl rfl (o_litP (e := 31) encID [dx] dx.val.cells (fun w => by kernel_rfl) (by simp [encID]) (by simp [maxLen]) fun b1 => ?_)
              refine o_want rfl rfl rfl rfl rfl (o_loadN (v := dy.val) rfl rfl rfl ?_)
              refine o_want rfl rfl rfl rfl rfl (o_litP (e := 31) encID [dy] dy.val.cells (fun w => by kernel_rfl) (by simp [encID]) (by simp [maxLen]) fun b2 => ?_)
              refine o_want rfl rfl rfl rfl rfl (o_call (InstsR_spec false (some ⟨b1, 0, none⟩) (some ⟨b2, 0, none⟩) 1 1 1 [dx] [dy] (by simp [hxg, hyg]) hxok hyok rfl (by decide)) rfl rfl ?_)
              rintro _ _ ⟨rfl, rfl⟩
              first | refine o_pick_t rfl rfl ?_ | refine o_pick_f rfl rfl ?_
              refine o_assign ?_
              refine g_end (G.imp (hQ_ .normal _) ?_)
              clear hQ_ Q_
              try refine g_then ?_
              refine G.bopen (ys := [dx]) (f := fun d : InstD => rwI false d.r.a d.r.cap d.r.zs) dx [] (List.Perm.refl _) ?_
              change G _ _ (oI dx.r.a dx.r.cap dx.r.zs :: _) _
              refine shutIl a ls ds hds hrs ?_
              rw [hdl]
              refine shutRI r room next ls a c0 rfl ?_
              repeat (first | refine g_endt ?_ | refine g_end ?_ | refine g_then ?_ | refine g_in_normal ?_ | refine g_then_ret ?_ | refine g_in_ret ?_ | refine g_then_exit ?_ | refine g_in_exit rfl ?_ | refine g_in_exit_ne (by decide) ?_ | refine g_seq ?_ | refine g_region ?_ | refine g_block ?_ | refine g_ret ?_ | refine g_return_n ?_ | refine g_exit ?_ | refine g_skip ?_)
              refine g_hideR fun Q_ hQ_ => ?_
              refine o_assign ?_
              refine g_end (G.imp (hQ_ .normal _) ?_)
              clear hQ_ Q_
              try refine g_then ?_
              repeat (first | refine g_endt ?_ | refine g_end ?_ | refine g_then ?_ | refine g_in_normal ?_ | refine g_then_ret ?_ | refine g_in_ret ?_ | refine g_then_exit ?_ | refine g_in_exit rfl ?_ | refine g_in_exit_ne (by decide) ?_ | refine g_seq ?_ | refine g_region ?_ | refine g_block ?_ | refine g_ret ?_ | refine g_return_n ?_ | refine g_exit ?_ | refine g_skip ?_)
              refine g_loop (σ := {t : Nat × List Int // t.1 ≤ dx.r.len ∧ t.2.length = dx.r.len}) (S := fun t => [(0, .pointer (some ⟨s, 0, none⟩)), (1, .pointer (some ⟨r, 0, none⟩)), (2, .slice A n c), (7, .int .i64 (i : Int)), (9, .bool true), (13, .pointer (some ⟨c13, 0, none⟩)), (18, .int .i64 (t.1.1 : Int))])
                (H := fun t => oI dx.r.a dx.r.cap t.1.2 :: cIn c13 dx.iv :: StP s room next ls :: RefI r room next ls :: acK A ys) (μ := fun t => dx.r.len - t.1.1) (s0 := ⟨(0, dx.r.zs), Nat.zero_le _, hxl⟩) (Sat.mem ⟨rfl, rfl, rfl, rfl, rfl, rfl, rfl, trivial⟩) ?_
              rintro ⟨⟨k, zs⟩, hk, hzl⟩ ρ4
              dsimp only at hk hzl ⊢
              by_cases hkn : k < dx.r.len
              · skip
                repeat (first | refine g_endt ?_ | refine g_end ?_ | refine g_then ?_ | refine g_in_normal ?_ | refine g_then_ret ?_ | refine g_in_ret ?_ | refine g_then_exit ?_ | refine g_in_exit rfl ?_ | refine g_in_exit_ne (by decide) ?_ | refine g_seq ?_ | refine g_region ?_ | refine g_block ?_ | refine g_ret ?_ | refine g_return_n ?_ | refine g_exit ?_ | refine g_skip ?_)
                refine g_hideR fun Q_ hQ_ => ?_
                refine o_move ?_
                first | refine o_field rfl ?_ | refine o_fieldR rfl (by omega) ?_
                refine o_load1 (v := .slice dx.r.a dx.r.len dx.r.cap) rfl rfl ?_
                refine o_len rfl rfl ?_
                refine o_lssT (t := true) rfl rfl (decide_eq_true (by omega)) ?_
                refine g_end (G.imp (hQ_ .normal _) ?_)
                clear hQ_ Q_
                try refine g_then ?_
                first | refine g_seq (g_cond_t rfl (by first | rfl | (simp; done) | (simp; omega) | (simp; assumption)) ?_) | refine g_cond_t rfl (by first | rfl | (simp; done) | (simp; omega) | (simp; assumption)) ?_
                repeat (first | refine g_endt ?_ | refine g_end ?_ | refine g_then ?_ | refine g_in_normal ?_ | refine g_then_ret ?_ | refine g_in_ret ?_ | refine g_then_exit ?_ | refine g_in_exit rfl ?_ | refine g_in_exit_ne (by decide) ?_ | refine g_seq ?_ | refine g_region ?_ | refine g_block ?_ | refine g_ret ?_ | refine g_return_n ?_ | refine g_exit ?_ | refine g_skip ?_)
                repeat (first | refine g_endt ?_ | refine g_end ?_ | refine g_then ?_ | refine g_in_normal ?_ | refine g_then_ret ?_ | refine g_in_ret ?_ | refine g_then_exit ?_ | refine g_in_exit rfl ?_ | refine g_in_exit_ne (by decide) ?_ | refine g_seq ?_ | refine g_region ?_ | refine g_block ?_ | refine g_ret ?_ | refine g_return_n ?_ | refine g_exit ?_ | refine g_skip ?_)
                refine g_hideR fun Q_ hQ_ => ?_
                first | refine o_field rfl ?_ | refine o_fieldR rfl (by omega) ?_
                refine o_load1 (v := .slice dx.r.a dx.r.len dx.r.cap) rfl rfl ?_
                refine o_move ?_
                refine o_indexR (ys := zs) (i := k) rfl rfl rfl (by omega) hzl rfl ?_
                refine o_storeE (e := 3) (c := dx.r.cap) (v := .int .i64 (-7)) (z := (-7 : Int)) (i := k) (enc := encI) (xs := zs) rfl rfl rfl rfl (by omega) ?_
                refine g_end (G.imp (hQ_ .normal _) ?_)
                clear hQ_ Q_
                try refine g_then ?_
                repeat (first | refine g_endt ?_ | refine g_end ?_ | refine g_then ?_ | refine g_in_normal ?_ | refine g_then_ret ?_ | refine g_in_ret ?_ | refine g_then_exit ?_ | refine g_in_exit rfl ?_ | refine g_in_exit_ne (by decide) ?_ | refine g_seq ?_ | refine g_region ?_ | refine g_block ?_ | refine g_ret ?_ | refine g_return_n ?_ | refine g_exit ?_ | refine g_skip ?_)
                repeat (first | refine g_endt ?_ | refine g_end ?_ | refine g_then ?_ | refine g_in_normal ?_ | refine g_then_ret ?_ | refine g_in_ret ?_ | refine g_then_exit ?_ | refine g_in_exit rfl ?_ | refine g_in_exit_ne (by decide) ?_ | refine g_seq ?_ | refine g_region ?_ | refine g_block ?_ | refine g_ret ?_ | refine g_return_n ?_ | refine g_exit ?_ | refine g_skip ?_)
                refine g_hideR fun Q_ hQ_ => ?_
                refine o_move ?_
                refine o_add (c := ((k + 1 : Nat) : Int)) rfl rfl (by omega) (by omega) (by omega) ?_
                refine o_assign ?_
                refine g_end (G.imp (hQ_ .normal _) ?_)
                clear hQ_ Q_
                try refine g_then ?_
                repeat (first | refine g_endt ?_ | refine g_end ?_ | refine g_then ?_ | refine g_in_normal ?_ | refine g_then_ret ?_ | refine g_in_ret ?_ | refine g_then_exit ?_ | refine g_in_exit rfl ?_ | refine g_in_exit_ne (by decide) ?_ | refine g_seq ?_ | refine g_region ?_ | refine g_block ?_ | refine g_ret ?_ | refine g_return_n ?_ | refine g_exit ?_ | refine g_skip ?_)
                exact g_meets ⟨(k + 1, zs.set k (-7)), hkn, by rw [List.length_set]; exact hzl⟩ (by show dx.r.len - (k + 1) < dx.r.len - k; omega) (Sat.mem ⟨rfl, rfl, rfl, rfl, rfl, rfl, rfl, trivial⟩)
              · skip
                repeat (first | refine g_endt ?_ | refine g_end ?_ | refine g_then ?_ | refine g_in_normal ?_ | refine g_then_ret ?_ | refine g_in_ret ?_ | refine g_then_exit ?_ | refine g_in_exit rfl ?_ | refine g_in_exit_ne (by decide) ?_ | refine g_seq ?_ | refine g_region ?_ | refine g_block ?_ | refine g_ret ?_ | refine g_return_n ?_ | refine g_exit ?_ | refine g_skip ?_)
                refine g_hideR fun Q_ hQ_ => ?_
                refine o_move ?_
                first | refine o_field rfl ?_ | refine o_fieldR rfl (by omega) ?_
                refine o_load1 (v := .slice dx.r.a dx.r.len dx.r.cap) rfl rfl ?_
                refine o_len rfl rfl ?_
                refine o_lssT (t := false) rfl rfl (decide_eq_false (by omega)) ?_
                refine g_end (G.imp (hQ_ .normal _) ?_)
                clear hQ_ Q_
                try refine g_then ?_
                first | refine g_seq (g_cond_f rfl (by first | rfl | (simp; done) | (simp; omega) | (simp; assumption)) ?_) | refine g_cond_f rfl (by first | rfl | (simp; done) | (simp; omega) | (simp; assumption)) ?_
                repeat (first | refine g_endt ?_ | refine g_end ?_ | refine g_then ?_ | refine g_in_normal ?_ | refine g_then_ret ?_ | refine g_in_ret ?_ | refine g_then_exit ?_ | refine g_in_exit rfl ?_ | refine g_in_exit_ne (by decide) ?_ | refine g_seq ?_ | refine g_region ?_ | refine g_block ?_ | refine g_ret ?_ | refine g_return_n ?_ | refine g_exit ?_ | refine g_skip ?_)
                exact g_meets () trivial (Sat.mem ⟨rfl, rfl, rfl, rfl, rfl, trivial⟩)
    · rintro _ ρ2 _
      refine openRI r room next' ls' fun a c0 => ?_
      repeat (first | refine g_endt ?_ | refine g_end ?_ | refine g_then ?_ | refine g_in_normal ?_ | refine g_then_ret ?_ | refine g_in_ret ?_ | refine g_then_exit ?_ | refine g_in_exit rfl ?_ | refine g_in_exit_ne (by decide) ?_ | refine g_seq ?_ | refine g_region ?_ | refine g_block ?_ | refine g_ret ?_ | refine g_return_n ?_ | refine g_exit ?_ | refine g_skip ?_)
      refine g_hide fun Q_ hQ_ => ?_
      refine g_draw [4,14] [0,1,2,3,5,6,7,8,9,4,10,11,12,13,15,16,17,18,14,19,20] [rI r room next' a ls'.length c0] mixed rfl ?_
      refine ob_q rfl rfl ⟨_, fun X Q h => o_move (g_end (h _ _ ⟨rfl, rfl⟩)), ?_⟩
      refine ob_q rfl rfl ⟨_, fun X Q h => o_not rfl (g_end (h _ _ ⟨rfl, rfl⟩)), ?_⟩
      refine ob_q rfl rfl ⟨_, fun X Q h => o_move (g_end (h _ _ ⟨rfl, rfl⟩)), ?_⟩
      first | refine ob_q rfl rfl ⟨_, fun X Q h => o_want rfl rfl rfl rfl rfl <| o_move (g_end (h _ _ ⟨rfl, rfl⟩)), ?_⟩ | refine ob_q rfl rfl ⟨_, fun X Q h => o_unwanted rfl rfl rfl rfl rfl (g_end (h _ _ ⟨rfl, rfl⟩)), ?_⟩ | refine ob_q rfl rfl ⟨_, fun X Q h => o_undef rfl rfl rfl (g_end (h _ _ ⟨rfl, rfl⟩)), ?_⟩
      first | refine ob_q rfl rfl ⟨_, fun X Q h => o_want rfl rfl rfl rfl rfl <| o_move (g_end (h _ _ ⟨rfl, rfl⟩)), ?_⟩ | refine ob_q rfl rfl ⟨_, fun X Q h => o_unwanted rfl rfl rfl rfl rfl (g_end (h _ _ ⟨rfl, rfl⟩)), ?_⟩ | refine ob_q rfl rfl ⟨_, fun X Q h => o_undef rfl rfl rfl (g_end (h _ _ ⟨rfl, rfl⟩)), ?_⟩
      first | refine ob_q rfl rfl ⟨_, fun X Q h => o_want rfl rfl rfl rfl rfl <| o_nil rfl (g_end (h _ _ ⟨rfl, rfl⟩)), ?_⟩ | refine ob_q rfl rfl ⟨_, fun X Q h => o_unwanted rfl rfl rfl rfl rfl (g_end (h _ _ ⟨rfl, rfl⟩)), ?_⟩ | refine ob_q rfl rfl ⟨_, fun X Q h => o_undef rfl rfl rfl (g_end (h _ _ ⟨rfl, rfl⟩)), ?_⟩
      first | refine ob_q rfl rfl ⟨_, fun X Q h => o_want rfl rfl rfl rfl rfl <| o_field rfl (g_end (h _ _ ⟨rfl, rfl⟩)), ?_⟩ | refine ob_q rfl rfl ⟨_, fun X Q h => o_want rfl rfl rfl rfl rfl <| o_fieldR rfl (by omega) (g_end (h _ _ ⟨rfl, rfl⟩)), ?_⟩ | refine ob_q rfl rfl ⟨_, fun X Q h => o_unwanted rfl rfl rfl rfl rfl (g_end (h _ _ ⟨rfl, rfl⟩)), ?_⟩ | refine ob_q rfl rfl ⟨_, fun X Q h => o_undef rfl rfl rfl (g_end (h _ _ ⟨rfl, rfl⟩)), ?_⟩
      refine ob_q rfl rfl ⟨_, fun X Q h => o_want rfl rfl rfl rfl rfl <| o_load1 (v := .slice a ls'.length c0) rfl rfl (g_end (h _ _ ⟨rfl, rfl⟩)), ?_⟩
      first | refine ob_q rfl rfl ⟨_, fun X Q h => o_want rfl rfl rfl rfl rfl <| o_len rfl rfl (g_end (h _ _ ⟨rfl, rfl⟩)), ?_⟩ | refine ob_q rfl rfl ⟨_, fun X Q h => o_unwanted rfl rfl rfl rfl rfl (g_end (h _ _ ⟨rfl, rfl⟩)), ?_⟩ | refine ob_q rfl rfl ⟨_, fun X Q h => o_undef rfl rfl rfl (g_end (h _ _ ⟨rfl, rfl⟩)), ?_⟩
      refine ob_l rfl rfl fun Qz hz => o_want rfl rfl rfl rfl rfl <| o_call (Len14_spec s room next' ls') rfl rfl ?_
      rintro _ _ ⟨rfl, rfl⟩
      refine g_end (hz _ _ ⟨_, ob_fin, ?_⟩)
      clear hz Qz
      refine ob_q rfl rfl ⟨_, fun X Q h => o_want rfl rfl rfl rfl rfl <| o_neqT (t := false) rfl rfl (by simp) (g_end (h _ _ ⟨rfl, rfl⟩)), ?_⟩
      first | refine ob_q rfl rfl ⟨_, fun X Q h => o_pick_t rfl rfl (g_end (h _ _ ⟨rfl, rfl⟩)), ?_⟩ | refine ob_q rfl rfl ⟨_, fun X Q h => o_pick_f rfl rfl (g_end (h _ _ ⟨rfl, rfl⟩)), ?_⟩
      refine ob_q rfl rfl ⟨_, fun X Q h => o_move (g_end (h _ _ ⟨rfl, rfl⟩)), ?_⟩
      first | refine ob_q rfl rfl ⟨_, fun X Q h => o_want rfl rfl rfl rfl rfl <| o_move (g_end (h _ _ ⟨rfl, rfl⟩)), ?_⟩ | refine ob_q rfl rfl ⟨_, fun X Q h => o_unwanted rfl rfl rfl rfl rfl (g_end (h _ _ ⟨rfl, rfl⟩)), ?_⟩ | refine ob_q rfl rfl ⟨_, fun X Q h => o_undef rfl rfl rfl (g_end (h _ _ ⟨rfl, rfl⟩)), ?_⟩
      first | refine ob_q rfl rfl ⟨_, fun X Q h => o_want rfl rfl rfl rfl rfl <| o_move (g_end (h _ _ ⟨rfl, rfl⟩)), ?_⟩ | refine ob_q rfl rfl ⟨_, fun X Q h => o_unwanted rfl rfl rfl rfl rfl (g_end (h _ _ ⟨rfl, rfl⟩)), ?_⟩ | refine ob_q rfl rfl ⟨_, fun X Q h => o_undef rfl rfl rfl (g_end (h _ _ ⟨rfl, rfl⟩)), ?_⟩
      first | refine ob_q rfl rfl ⟨_, fun X Q h => o_want rfl rfl rfl rfl rfl <| o_nil rfl (g_end (h _ _ ⟨rfl, rfl⟩)), ?_⟩ | refine ob_q rfl rfl ⟨_, fun X Q h => o_unwanted rfl rfl rfl rfl rfl (g_end (h _ _ ⟨rfl, rfl⟩)), ?_⟩ | refine ob_q rfl rfl ⟨_, fun X Q h => o_undef rfl rfl rfl (g_end (h _ _ ⟨rfl, rfl⟩)), ?_⟩
      first | refine ob_q rfl rfl ⟨_, fun X Q h => o_want rfl rfl rfl rfl rfl <| o_field rfl (g_end (h _ _ ⟨rfl, rfl⟩)), ?_⟩ | refine ob_q rfl rfl ⟨_, fun X Q h => o_want rfl rfl rfl rfl rfl <| o_fieldR rfl (by omega) (g_end (h _ _ ⟨rfl, rfl⟩)), ?_⟩ | refine ob_q rfl rfl ⟨_, fun X Q h => o_unwanted rfl rfl rfl rfl rfl (g_end (h _ _ ⟨rfl, rfl⟩)), ?_⟩ | refine ob_q rfl rfl ⟨_, fun X Q h => o_undef rfl rfl rfl (g_end (h _ _ ⟨rfl, rfl⟩)), ?_⟩
      refine ob_q rfl rfl ⟨_, fun X Q h => o_want rfl rfl rfl rfl rfl <| o_load1 (v := .int .i64 next') rfl rfl (g_end (h _ _ ⟨rfl, rfl⟩)), ?_⟩
      refine ob_l rfl rfl fun Qz hz => o_want rfl rfl rfl rfl rfl <| o_call (Next14_spec s room next' ls') rfl rfl ?_
      rintro _ _ ⟨rfl, rfl⟩
      refine g_end (hz _ _ ⟨_, ob_fin, ?_⟩)
      clear hz Qz
      refine ob_q rfl rfl ⟨_, fun X Q h => o_want rfl rfl rfl rfl rfl <| o_neqT (t := false) rfl rfl (by simp) (g_end (h _ _ ⟨rfl, rfl⟩)), ?_⟩
      first | refine ob_q rfl rfl ⟨_, fun X Q h => o_pick_t rfl rfl (g_end (h _ _ ⟨rfl, rfl⟩)), ?_⟩ | refine ob_q rfl rfl ⟨_, fun X Q h => o_pick_f rfl rfl (g_end (h _ _ ⟨rfl, rfl⟩)), ?_⟩
      refine ob_nil ?_
      refine G.imp (hQ_ .normal _) ?_
      clear hQ_ Q_
      try refine g_then ?_
      first | refine g_seq (g_cond_f rfl (by first | rfl | (simp; done) | (simp; omega) | (simp; assumption)) ?_) | refine g_cond_f rfl (by first | rfl | (simp; done) | (simp; omega) | (simp; assumption)) ?_
      refine shutRI r room next' ls' a c0 rfl ?_
      repeat (first | refine g_endt ?_ | refine g_end ?_ | refine g_then ?_ | refine g_in_normal ?_ | refine g_then_ret ?_ | refine g_in_ret ?_ | refine g_then_exit ?_ | refine g_in_exit rfl ?_ | refine g_in_exit_ne (by decide) ?_ | refine g_seq ?_ | refine g_region ?_ | refine g_block ?_ | refine g_ret ?_ | refine g_return_n ?_ | refine g_exit ?_ | refine g_skip ?_)
      repeat (first | refine g_endt ?_ | refine g_end ?_ | refine g_then ?_ | refine g_in_normal ?_ | refine g_then_ret ?_ | refine g_in_ret ?_ | refine g_then_exit ?_ | refine g_in_exit rfl ?_ | refine g_in_exit_ne (by decide) ?_ | refine g_seq ?_ | refine g_region ?_ | refine g_block ?_ | refine g_ret ?_ | refine g_return_n ?_ | refine g_exit ?_ | refine g_skip ?_)
      refine g_hideR fun Q_ hQ_ => ?_
      refine o_move ?_
      refine o_add (c := ((i + 1 : Nat) : Int)) rfl rfl (by omega) (by omega) (by omega) ?_
      refine o_assign ?_
      refine g_end (G.imp (hQ_ .normal _) ?_)
      clear hQ_ Q_
      try refine g_then ?_
      repeat (first | refine g_endt ?_ | refine g_end ?_ | refine g_then ?_ | refine g_in_normal ?_ | refine g_then_ret ?_ | refine g_in_ret ?_ | refine g_then_exit ?_ | refine g_in_exit rfl ?_ | refine g_in_exit_ne (by decide) ?_ | refine g_seq ?_ | refine g_region ?_ | refine g_block ?_ | refine g_ret ?_ | refine g_return_n ?_ | refine g_exit ?_ | refine g_skip ?_)
      exact g_meets ⟨(i + 1, next', ls'), hin, hT⟩ (by show n - (i + 1) < n - i; omega) (Sat.mem ⟨rfl, rfl, rfl, rfl, trivial⟩)
  · skip
    repeat (first | refine g_endt ?_ | refine g_end ?_ | refine g_then ?_ | refine g_in_normal ?_ | refine g_then_ret ?_ | refine g_in_ret ?_ | refine g_then_exit ?_ | refine g_in_exit rfl ?_ | refine g_in_exit_ne (by decide) ?_ | refine g_seq ?_ | refine g_region ?_ | refine g_block ?_ | refine g_ret ?_ | refine g_return_n ?_ | refine g_exit ?_ | refine g_skip ?_)
    refine g_hideR fun Q_ hQ_ => ?_
    refine o_move ?_
    refine o_move ?_
    refine o_len rfl rfl ?_
    refine o_lssT (t := false) rfl rfl (decide_eq_false (by omega)) ?_
    refine g_end (G.imp (hQ_ .normal _) ?_)
    clear hQ_ Q_
    try refine g_then ?_
    first | refine g_seq (g_cond_f rfl (by first | rfl | (simp; done) | (simp; omega) | (simp; assumption)) ?_) | refine g_cond_f rfl (by first | rfl | (simp; done) | (simp; omega) | (simp; assumption)) ?_
    repeat (first | refine g_endt ?_ | refine g_end ?_ | refine g_then ?_ | refine g_in_normal ?_ | refine g_then_ret ?_ | refine g_in_ret ?_ | refine g_then_exit ?_ | refine g_in_exit rfl ?_ | refine g_in_exit_ne (by decide) ?_ | refine g_seq ?_ | refine g_region ?_ | refine g_block ?_ | refine g_ret ?_ | refine g_return_n ?_ | refine g_exit ?_ | refine g_skip ?_)
    have hstf : st = (next, ls) := by rw [← hst, ← hst1, List.take_of_length_le (by omega)]
    subst hstf
    refine openRI r room next ls fun a c0 => ?_
    repeat (first | refine g_endt ?_ | refine g_end ?_ | refine g_then ?_ | refine g_in_normal ?_ | refine g_then_ret ?_ | refine g_in_ret ?_ | refine g_then_exit ?_ | refine g_in_exit rfl ?_ | refine g_in_exit_ne (by decide) ?_ | refine g_seq ?_ | refine g_region ?_ | refine g_block ?_ | refine g_ret ?_ | refine g_return_n ?_ | refine g_exit ?_ | refine g_skip ?_)
    refine g_hide fun Q_ hQ_ => ?_
    refine g_draw [1,2,7] [0,3,4,5,6,1,2,7,8] [rI r room next a ls.length c0] mixed rfl ?_
    refine ob_q rfl rfl ⟨_, fun X Q h => o_move (g_end (h _ _ ⟨rfl, rfl⟩)), ?_⟩
    refine ob_q rfl rfl ⟨_, fun X Q h => o_move (g_end (h _ _ ⟨rfl, rfl⟩)), ?_⟩
    refine ob_q rfl rfl ⟨_, fun X Q h => o_nil rfl (g_end (h _ _ ⟨rfl, rfl⟩)), ?_⟩
    first | refine ob_q rfl rfl ⟨_, fun X Q h => o_field rfl (g_end (h _ _ ⟨rfl, rfl⟩)), ?_⟩ | refine ob_q rfl rfl ⟨_, fun X Q h => o_fieldR rfl (by omega) (g_end (h _ _ ⟨rfl, rfl⟩)), ?_⟩
    refine ob_q rfl rfl ⟨_, fun X Q h => o_load1 (v := .slice a ls.length c0) rfl rfl (g_end (h _ _ ⟨rfl, rfl⟩)), ?_⟩
    refine ob_l rfl rfl fun Qz hz => o_call (All14_spec s) rfl rfl ?_
    rintro _ _ ⟨b, rfl, rfl⟩
    refine g_end (hz _ _ ⟨_, ob_fin, ?_⟩)
    clear hz Qz
    refine ob_l rfl rfl fun Qz hz => o_call (ListI_spec 39 [.pointer (some ⟨b, 0, none⟩)] ls rfl (by omega) htag2 [StP s room next ls, pSt b s] (fun K => All14_iter s b room next ls (by omega) htag2 (K ++ [StP s room next ls, pSt b s]))) rfl rfl ?_
    rintro _ _ ⟨S2, e2, rfl, rfl⟩
    refine g_end (hz _ _ ⟨_, ob_fin, ?_⟩)
    clear hz Qz
    refine ob_l rfl rfl fun Qz hz => o_callp (InstsIl_spec S2 a ls.length e2 c0 ls rfl (by omega)) rfl rfl ?_
    rintro _ _ ⟨rfl, rfl⟩
    refine g_end (hz _ _ ⟨_, ob_fin, ?_⟩)
    clear hz Qz
    refine ob_q rfl rfl ⟨_, fun X Q h => o_assign (g_end (h _ _ ⟨rfl, rfl⟩)), ?_⟩
    refine ob_nil ?_
    refine G.imp (hQ_ .normal _) ?_
    clear hQ_ Q_
    try refine g_then ?_
    refine shutRI r room next ls a c0 rfl ?_
    repeat (first | refine g_endt ?_ | refine g_end ?_ | refine g_then ?_ | refine g_in_normal ?_ | refine g_then_ret ?_ | refine g_in_ret ?_ | refine g_then_exit ?_ | refine g_in_exit rfl ?_ | refine g_in_exit_ne (by decide) ?_ | refine g_seq ?_ | refine g_region ?_ | refine g_block ?_ | refine g_ret ?_ | refine g_return_n ?_ | refine g_exit ?_ | refine g_skip ?_)
    exact ret1 (K := [StP s room next ls, RefI r room next ls]) rfl (resT (v := .bool true) rfl) ⟨rfl, rfl⟩
end Go.Proofs.Ytkglmhgehccmoaa
/- What is to be asserted, what to be retracted: the store's Diff. -/
namespace Go.Proofs.Ytkglmhgehccmoaa
open Go Go.Sl
attribute [local irreducible] Exit.then Exit.inBlock Code.wpIn roundPost bodyPostM runL Ret Meets MeetsD Begin

abbrev cS (c p : Nat) : SProp := cellsB c #[.pointer (some ⟨p, 0, none⟩)] 84
abbrev cHF (c : Nat) (hf : FuncId) (hb : List Value) : SProp := cellsB c #[.func (.func hf) #[] hb.toArray] 53
abbrev cMA (c : Nat) (m : MatD) : SProp := cellsB c m.val.cells 52
abbrev pMS (b p : Nat) : SProp := pblk b (.cells #[.pointer (some ⟨p, 0, none⟩)] 84 (0, 0))
set_option maxHeartbeats 4000000 in
theorem Diff14_spec (s : Nat) (room next : Int) (ls : List InstP) (hn : next ≤ 1000000) (hlen : ∀ x ∈ ls, x.tags.length ≤ 1000000) (gf hf : FuncId) (gb hb : List Value) (ms : List MatD) (hms : RowsOk (ms.map MatD.r)) (hml : ms.length ≤ 1000000) (hmt : ∀ d ∈ ms, d.r.zs.length ≤ 1000000) (X Y : SProp) [En Try.prog gf] [En Try.prog hf]
    (hit : ∀ K, Iter Try.prog gf gb MatD.enc' ms (K ++ [X])) (hr : Int → Bool) (hh : ∀ t : Int, Ctr Try.prog hf ([.int .i64 t] ++ hb) [Y] (fun v M => v = .bool (hr t) ∧ M = [Y]))
    {us : List MatP} {dn : List Int} (hu : upsI (ms.map MatD.pl) ls = us) (hd : downsI (ms.map MatD.pl) hr ls = dn) :
    Ctr Try.prog 24 [.pointer (some ⟨s, 0, none⟩), .func (.func gf) #[] gb.toArray, .func (.func hf) #[] hb.toArray] [StP s room next ls, prowsG encI 1 (ms.map MatD.r), X, Y]
      (fun v M => ∃ S1 c1 S2 c2, v = .tuple #[.slice S1 us.length c1, .slice S2 dn.length c2] ∧ M = [UpP S1 us, psl encI 1 S2 dn, StP s room next ls, X, Y]) := by
  refine spec_of Try.func24 rfl Try.ntmps24 rfl fun w0 F => ?_
  -- hide
  -- (*ponder/inst.Store).Diff
  repeat (first | refine g_endt ?_ | refine g_end ?_ | refine g_then ?_ | refine g_in_normal ?_ | refine g_then_ret ?_ | refine g_in_ret ?_ | refine g_then_exit ?_ | refine g_in_exit rfl ?_ | refine g_in_exit_ne (by decide) ?_ | refine g_seq ?_ | refine g_region ?_ | refine g_block ?_ | refine g_ret ?_ | refine g_return_n ?_ | refine g_exit ?_ | refine g_skip ?_)
  refine g_hideR fun Q_ hQ_ => ?_
  refine o_boxc #[.func (.func hf) #[] hb.toArray] rfl rfl fun c5 => ?_
  refine o_alloc fun c6 => ?_
  refine o_alloc fun c7 => ?_
  refine g_end (G.imp (hQ_ .normal _) ?_)
  clear hQ_ Q_
  try refine g_then ?_
  refine G.norm c6 #[.slice none 0 0] rfl ?_
  refine G.norm c7 #[.slice none 0 0] rfl ?_
  refine newGN c7 ?_
  refine G.nil_slice (α := MatD) 52 MatD.enc 2 ?_
  refine G.bnil oM ?_
  refine shutGM c6 [] none 0 [] rfl (fun _ h => nomatch h) rfl ?_
  repeat (first | refine g_endt ?_ | refine g_end ?_ | refine g_then ?_ | refine g_in_normal ?_ | refine g_then_ret ?_ | refine g_in_ret ?_ | refine g_then_exit ?_ | refine g_in_exit rfl ?_ | refine g_in_exit_ne (by decide) ?_ | refine g_seq ?_ | refine g_region ?_ | refine g_block ?_ | refine g_ret ?_ | refine g_return_n ?_ | refine g_exit ?_ | refine g_skip ?_)
  refine g_hideR fun Q_ hQ_ => ?_
  refine o_call (NewSM_spec) rfl rfl ?_
  rintro _ _ ⟨p, rfl, rfl⟩
  refine o_alloc fun c8 => ?_
  refine o_store (v := .pointer (some ⟨p, 0, none⟩)) rfl rfl rfl rfl rfl ?_
  refine g_end (G.imp (hQ_ .normal _) ?_)
  clear hQ_ Q_
  try refine g_then ?_
  refine G.norm c8 #[.pointer (some ⟨p, 0, none⟩)] rfl ?_
  repeat (first | refine g_endt ?_ | refine g_end ?_ | refine g_then ?_ | refine g_in_normal ?_ | refine g_then_ret ?_ | refine g_in_ret ?_ | refine g_then_exit ?_ | refine g_in_exit rfl ?_ | refine g_in_exit_ne (by decide) ?_ | refine g_seq ?_ | refine g_region ?_ | refine g_block ?_ | refine g_ret ?_ | refine g_return_n ?_ | refine g_exit ?_ | refine g_skip ?_)
  refine g_hideR fun Q_ hQ_ => ?_
  refine o_move ?_
  refine g_end (G.imp (hQ_ .normal _) ?_)
  clear hQ_ Q_
  try refine g_then ?_
  repeat (first | refine g_endt ?_ | refine g_end ?_ | refine g_then ?_ | refine g_in_normal ?_ | refine g_then_ret ?_ | refine g_in_ret ?_ | refine g_then_exit ?_ | refine g_in_exit rfl ?_ | refine g_in_exit_ne (by decide) ?_ | refine g_seq ?_ | refine g_region ?_ | refine g_block ?_ | refine g_ret ?_ | refine g_return_n ?_ | refine g_exit ?_ | refine g_skip ?_)
  refine g_range (ps := [24]) (lb := gb) (enc := MatD.enc') (xs := ms) rfl
    (fun pre => [cHF c5 hf hb, GrowM c6 [], GrowN c7 [], cS c8 p, SetM p (allM (pre.map MatD.pl)), StP s room next ls, prowsG encI 1 (ms.map MatD.r), Y, X])
    (fun c pre => [pu False])
    (fun K => hit [K, cHF c5 hf hb, GrowM c6 [], GrowN c7 [], cS c8 p, SetM p [], StP s room next ls, prowsG encI 1 (ms.map MatD.r), Y])
    (fun _ => rfl) (tk := (inferInstance : Take _ [cHF c5 hf hb, GrowM c6 [], GrowN c7 [], cS c8 p, SetM p [], StP s room next ls, prowsG encI 1 (ms.map MatD.r), Y, X] _)) ?_ ?_ ?_
  · intro w0 F l r pre d hp
    have hlen : pre.length < ms.length := by
      obtain ⟨t, ht⟩ := hp
      have := congrArg List.length ht
      simp at this
      omega
    have hdm : d ∈ ms := hp.subset (by simp)
    have hdr : d.r ∈ ms.map MatD.r := List.mem_map_of_mem hdm
    have hdl := hms _ hdr
    have hdt := hmt d hdm
    have hal : (allM (pre.map MatD.pl)).length ≤ 1000000 := by have := allM_len (pre.map MatD.pl); rw [List.length_map] at this; omega
    have hsn : insC MatP.cmp (allM (pre.map MatD.pl)) d.pl = allM ((pre ++ [d]).map MatD.pl) := by rw [List.map_append]; exact (allM_snoc _ _).symm
    generalize allM ((pre ++ [d]).map MatD.pl) = ax2 at hsn ⊢
    generalize allM (pre.map MatD.pl) = ax at hal hsn ⊢
    refine G.rowG (enc := encI) (sz := 1) hdr ?_
    refine G.nil_slice (α := Int) 3 encI 1 ?_
    repeat (first | refine g_endt ?_ | refine g_end ?_ | refine g_then ?_ | refine g_in_normal ?_ | refine g_then_ret ?_ | refine g_in_ret ?_ | refine g_then_exit ?_ | refine g_in_exit rfl ?_ | refine g_in_exit_ne (by decide) ?_ | refine g_seq ?_ | refine g_region ?_ | refine g_block ?_ | refine g_ret ?_ | refine g_return_n ?_ | refine g_exit ?_ | refine g_skip ?_)
    refine g_hideR fun Q_ hQ_ => ?_
    refine o_alloc fun c9 => ?_
    refine o_store (v := d.val) rfl rfl rfl rfl rfl ?_
    refine g_end (G.imp (hQ_ .normal _) ?_)
    clear hQ_ Q_
    try refine g_then ?_
    refine G.norm c9 d.val.cells rfl ?_
    repeat (first | refine g_endt ?_ | refine g_end ?_ | refine g_then ?_ | refine g_in_normal ?_ | refine g_then_ret ?_ | refine g_in_ret ?_ | refine g_then_exit ?_ | refine g_in_exit rfl ?_ | refine g_in_exit_ne (by decide) ?_ | refine g_seq ?_ | refine g_region ?_ | refine g_block ?_ | refine g_ret ?_ | refine g_return_n ?_ | refine g_exit ?_ | refine g_skip ?_)
    refine g_begin ?_
    repeat (first | refine g_endt ?_ | refine g_end ?_ | refine g_then ?_ | refine g_in_normal ?_ | refine g_then_ret ?_ | refine g_in_ret ?_ | refine g_then_exit ?_ | refine g_in_exit rfl ?_ | refine g_in_exit_ne (by decide) ?_ | refine g_seq ?_ | refine g_region ?_ | refine g_block ?_ | refine g_ret ?_ | refine g_return_n ?_ | refine g_exit ?_ | refine g_skip ?_)
    refine g_hide fun Q_ hQ_ => ?_
    refine g_draw [5,7] [0,1,2,3,4,5,6,7] [cS c8 p, cMA c9 d] mixed rfl ?_
    refine ob_q rfl rfl ⟨_, fun X Q h => o_load1 (v := .pointer (some ⟨p, 0, none⟩)) rfl rfl (g_end (h _ _ ⟨rfl, rfl⟩)), ?_⟩
    first | refine ob_q rfl rfl ⟨_, fun X Q h => o_field rfl (g_end (h _ _ ⟨rfl, rfl⟩)), ?_⟩ | refine ob_q rfl rfl ⟨_, fun X Q h => o_fieldR rfl (by omega) (g_end (h _ _ ⟨rfl, rfl⟩)), ?_⟩
    refine ob_q rfl rfl ⟨_, fun X Q h => o_load1 (v := .string d.name) rfl rfl (g_end (h _ _ ⟨rfl, rfl⟩)), ?_⟩
    first | refine ob_q rfl rfl ⟨_, fun X Q h => o_field rfl (g_end (h _ _ ⟨rfl, rfl⟩)), ?_⟩ | refine ob_q rfl rfl ⟨_, fun X Q h => o_fieldR rfl (by omega) (g_end (h _ _ ⟨rfl, rfl⟩)), ?_⟩
    refine ob_q rfl rfl ⟨_, fun X Q h => o_load1 (v := .slice d.r.a d.r.len d.r.cap) rfl rfl (g_end (h _ _ ⟨rfl, rfl⟩)), ?_⟩
    refine ob_l rfl rfl fun Qz hz => o_append0 (ys := d.r.zs) rfl rfl rfl rfl hdl.1 (by simp [maxLen]; omega) (by omega) fun S c => ?_
    refine G.bring [oI S c d.r.zs] (G.frz ?_)
    refine g_end (hz _ _ ⟨_, ob_fin, ?_⟩)
    clear hz Qz
    refine ob_q rfl rfl ⟨_, fun X Q h => o_build (MatD.mk d.name ⟨S, d.r.len, c, d.r.zs⟩).val (fun w => by kernel_rfl) (g_end (h _ _ ⟨rfl, rfl⟩)), ?_⟩
    refine ob_l rfl rfl fun Qz hz => o_call (PutSMK_spec p ax (MatD.mk d.name ⟨S, d.r.len, c, d.r.zs⟩) (by omega) hdl hsn) rfl rfl ?_
    rintro _ _ ⟨rfl, rfl⟩
    refine g_end (hz _ _ ⟨_, ob_fin, ?_⟩)
    clear hz Qz
    refine ob_nil ?_
    refine G.imp (hQ_ .normal _) ?_
    clear hQ_ Q_
    try refine g_then ?_
    repeat (first | refine g_endt ?_ | refine g_end ?_ | refine g_then ?_ | refine g_in_normal ?_ | refine g_then_ret ?_ | refine g_in_ret ?_ | refine g_then_exit ?_ | refine g_in_exit rfl ?_ | refine g_in_exit_ne (by decide) ?_ | refine g_seq ?_ | refine g_region ?_ | refine g_block ?_ | refine g_ret ?_ | refine g_return_n ?_ | refine g_exit ?_ | refine g_skip ?_)
    exact g_next
  · intro D
    have hal : (allM (ms.map MatD.pl)).length ≤ 1000000 := by have := allM_len (ms.map MatD.pl); rw [List.length_map] at this; omega
    have hat : ∀ m ∈ allM (ms.map MatD.pl), m.tags.length ≤ 1000000 := fun m hm => by
      obtain ⟨d, hd, rfl⟩ := List.mem_map.1 (allM_mem hm)
      exact hmt d hd
    obtain ⟨mps, hmps⟩ : ∃ mps, mps = ms.map MatD.pl := ⟨_, rfl⟩
    rw [← hmps] at hu hd hal hat ⊢
    repeat (first | refine g_endt ?_ | refine g_end ?_ | refine g_then ?_ | refine g_in_normal ?_ | refine g_then_ret ?_ | refine g_in_ret ?_ | refine g_then_exit ?_ | refine g_in_exit rfl ?_ | refine g_in_exit_ne (by decide) ?_ | refine g_seq ?_ | refine g_region ?_ | refine g_block ?_ | refine g_ret ?_ | refine g_return_n ?_ | refine g_exit ?_ | refine g_skip ?_)
    repeat (first | refine g_endt ?_ | refine g_end ?_ | refine g_then ?_ | refine g_in_normal ?_ | refine g_then_ret ?_ | refine g_in_ret ?_ | refine g_then_exit ?_ | refine g_in_exit rfl ?_ | refine g_in_exit_ne (by decide) ?_ | refine g_seq ?_ | refine g_region ?_ | refine g_block ?_ | refine g_ret ?_ | refine g_return_n ?_ | refine g_exit ?_ | refine g_skip ?_)
    refine g_hideR fun Q_ hQ_ => ?_
    refine o_call (NewSM_spec) rfl rfl ?_
    rintro _ _ ⟨q, rfl, rfl⟩
    refine o_alloc fun c10 => ?_
    refine o_store (v := .pointer (some ⟨q, 0, none⟩)) rfl rfl rfl rfl rfl ?_
    refine g_end (G.imp (hQ_ .normal _) ?_)
    clear hQ_ Q_
    try refine g_then ?_
    refine G.norm c10 #[.pointer (some ⟨q, 0, none⟩)] rfl ?_
    refine openSt s room next ls fun ds mp hI hds => ?_
    have hfl : (ds.map InstD.pg).length < 1000000000 := by have := hI.len; rw [List.length_map]; omega
    have hf2 : ds.length < 1000000 := by have := hI.len; omega
    repeat (first | refine g_endt ?_ | refine g_end ?_ | refine g_then ?_ | refine g_in_normal ?_ | refine g_then_ret ?_ | refine g_in_ret ?_ | refine g_then_exit ?_ | refine g_in_exit rfl ?_ | refine g_in_exit_ne (by decide) ?_ | refine g_seq ?_ | refine g_region ?_ | refine g_block ?_ | refine g_ret ?_ | refine g_return_n ?_ | refine g_exit ?_ | refine g_skip ?_)
    refine g_hideR fun Q_ hQ_ => ?_
    refine o_move ?_
    refine o_nil rfl ?_
    first | refine o_field rfl ?_ | refine o_fieldR rfl (by omega) ?_
    refine o_load1 (v := .pointer (some ⟨mp, 0, none⟩)) rfl rfl ?_
    refine o_call (AllMNI_spec mp) rfl rfl ?_
    rintro _ _ ⟨b2, rfl, rfl⟩
    refine g_end (G.imp (hQ_ .normal _) ?_)
    clear hQ_ Q_
    try refine g_then ?_
    repeat (first | refine g_endt ?_ | refine g_end ?_ | refine g_then ?_ | refine g_in_normal ?_ | refine g_then_ret ?_ | refine g_in_ret ?_ | refine g_then_exit ?_ | refine g_in_exit rfl ?_ | refine g_in_exit_ne (by decide) ?_ | refine g_seq ?_ | refine g_region ?_ | refine g_block ?_ | refine g_ret ?_ | refine g_return_n ?_ | refine g_exit ?_ | refine g_skip ?_)
    refine g_range (ps := [39, 40]) (lb := [.pointer (some ⟨b2, 0, none⟩)]) (enc := fun d : InstD => PgNI.enc2 d.pg) (xs := ds) rfl
      (fun pre => [cHF c5 hf hb, GrowM c6 [], GrowN c7 (downsI mps hr (pre.map InstD.pl)), cS c8 p, SetM p (allM mps), cS c10 q, SetM q (allM ((pre.map InstD.pl).map InstP.m)), pMI b2 mp, sC s room next mp, MapANI mp (ds.map InstD.pg), prowsG encI 1 (ds.map InstD.r), Y, X])
      (fun c pre => [pu False])
      (fun K => Iter.comp (f := InstD.pg) (AllM1NI_iter mp b2 (ds.map InstD.pg) hfl [K, cHF c5 hf hb, GrowM c6 [], GrowN c7 [], cS c8 p, SetM p (allM mps), cS c10 q, SetM q [], pMI b2 mp, sC s room next mp, MapANI mp (ds.map InstD.pg), prowsG encI 1 (ds.map InstD.r), Y, X]))
      (fun _ => rfl) (tk := (inferInstance : Take _ [cHF c5 hf hb, GrowM c6 [], GrowN c7 [], cS c8 p, SetM p (allM mps), cS c10 q, SetM q [], pMI b2 mp, sC s room next mp, MapANI mp (ds.map InstD.pg), prowsG encI 1 (ds.map InstD.r), Y, X] _)) ?_ ?_ ?_
    · intro w0 F l r pre d hp
      have hlen2 : pre.length < ds.length := by
        obtain ⟨t, ht⟩ := hp
        have := congrArg List.length ht
        simp at this
        omega
      have hdm : d ∈ ds := hp.subset (by simp)
      have hdl := hI.rows _ (List.mem_map_of_mem (f := InstD.r) hdm)
      have hdt : d.r.zs.length ≤ 1000000 := hlen d.pl (by rw [← hds]; exact List.mem_map_of_mem hdm)
      have hql : (allM ((pre.map InstD.pl).map InstP.m)).length ≤ 1000000 := by have := allM_len ((pre.map InstD.pl).map InstP.m); rw [List.length_map, List.length_map] at this; omega
      have hqs : insC MatP.cmp (allM ((pre.map InstD.pl).map InstP.m)) (MatD.mk d.name d.r).pl = allM (((pre ++ [d]).map InstD.pl).map InstP.m) := by rw [List.map_append, List.map_append]; exact (allM_snoc _ _).symm
      have hcl := downs_len mps hr (pre.map InstD.pl)
      rw [List.length_map] at hcl
      have hcs := downs_snoc mps hr (pre.map InstD.pl) d.pl
      rw [show pre.map InstD.pl ++ [d.pl] = (pre ++ [d]).map InstD.pl by rw [List.map_append]; rfl] at hcs
      generalize downsI mps hr ((pre ++ [d]).map InstD.pl) = cs2 at hcs ⊢
      generalize downsI mps hr (pre.map InstD.pl) = cs at hcl hcs ⊢
      generalize allM (((pre ++ [d]).map InstD.pl).map InstP.m) = qx2 at hqs ⊢
      generalize allM ((pre.map InstD.pl).map InstP.m) = qx at hql hqs ⊢
      obtain ⟨g, hg⟩ : ∃ g, goesI mps hr d.pl = g := ⟨_, rfl⟩
      rw [hg] at hcs
      unfold goesI at hg
      obtain ⟨ax, hax⟩ : ∃ ax, ax = allM mps := ⟨_, rfl⟩
      rw [← hax] at hg hal ⊢
      refine G.rowG (enc := encI) (sz := 1) (List.mem_map_of_mem (f := InstD.r) hdm) ?_
      repeat (first | refine g_endt ?_ | refine g_end ?_ | refine g_then ?_ | refine g_in_normal ?_ | refine g_then_ret ?_ | refine g_in_ret ?_ | refine g_then_exit ?_ | refine g_in_exit rfl ?_ | refine g_in_exit_ne (by decide) ?_ | refine g_seq ?_ | refine g_region ?_ | refine g_block ?_ | refine g_ret ?_ | refine g_return_n ?_ | refine g_exit ?_ | refine g_skip ?_)
      refine g_hideR fun Q_ hQ_ => ?_
      refine o_assign ?_
      refine g_end (G.imp (hQ_ .normal _) ?_)
      clear hQ_ Q_
      try refine g_then ?_
      repeat (first | refine g_endt ?_ | refine g_end ?_ | refine g_then ?_ | refine g_in_normal ?_ | refine g_then_ret ?_ | refine g_in_ret ?_ | refine g_then_exit ?_ | refine g_in_exit rfl ?_ | refine g_in_exit_ne (by decide) ?_ | refine g_seq ?_ | refine g_region ?_ | refine g_block ?_ | refine g_ret ?_ | refine g_return_n ?_ | refine g_exit ?_ | refine g_skip ?_)
      refine g_hideR fun Q_ hQ_ => ?_
      refine o_alloc fun c12 => ?_
      refine o_store (v := d.iv.val) rfl rfl rfl rfl rfl ?_
      refine g_end (G.imp (hQ_ .normal _) ?_)
      clear hQ_ Q_
      try refine g_then ?_
      refine G.norm c12 d.iv.val.cells rfl ?_
      repeat (first | refine g_endt ?_ | refine g_end ?_ | refine g_then ?_ | refine g_in_normal ?_ | refine g_then_ret ?_ | refine g_in_ret ?_ | refine g_then_exit ?_ | refine g_in_exit rfl ?_ | refine g_in_exit_ne (by decide) ?_ | refine g_seq ?_ | refine g_region ?_ | refine g_block ?_ | refine g_ret ?_ | refine g_return_n ?_ | refine g_exit ?_ | refine g_skip ?_)
      refine g_begin ?_
      repeat (first | refine g_endt ?_ | refine g_end ?_ | refine g_then ?_ | refine g_in_normal ?_ | refine g_then_ret ?_ | refine g_in_ret ?_ | refine g_then_exit ?_ | refine g_in_exit rfl ?_ | refine g_in_exit_ne (by decide) ?_ | refine g_seq ?_ | refine g_region ?_ | refine g_block ?_ | refine g_ret ?_ | refine g_return_n ?_ | refine g_exit ?_ | refine g_skip ?_)
      refine g_hideR fun Q_ hQ_ => ?_
      first | refine o_field rfl ?_ | refine o_fieldR rfl (by omega) ?_
      refine o_load1 (v := .string d.name) rfl rfl ?_
      first | refine o_field rfl ?_ | refine o_fieldR rfl (by omega) ?_
      refine o_load1 (v := .slice d.r.a d.r.len d.r.cap) rfl rfl ?_
      refine o_build ((MatD.mk d.name d.r).val) (fun w => by kernel_rfl) ?_
      refine o_alloc fun c13 => ?_
      refine o_store (v := (MatD.mk d.name d.r).val) rfl rfl rfl rfl rfl ?_
      refine g_end (G.imp (hQ_ .normal _) ?_)
      clear hQ_ Q_
      try refine g_then ?_
      refine G.norm c13 (MatD.mk d.name d.r).val.cells rfl ?_
      refine G.dup (psl encI 1 d.r.a d.r.zs) ?_
      repeat (first | refine g_endt ?_ | refine g_end ?_ | refine g_then ?_ | refine g_in_normal ?_ | refine g_then_ret ?_ | refine g_in_ret ?_ | refine g_then_exit ?_ | refine g_in_exit rfl ?_ | refine g_in_exit_ne (by decide) ?_ | refine g_seq ?_ | refine g_region ?_ | refine g_block ?_ | refine g_ret ?_ | refine g_return_n ?_ | refine g_exit ?_ | refine g_skip ?_)
      refine g_hideR fun Q_ hQ_ => ?_
      refine o_load1 (v := .pointer (some ⟨q, 0, none⟩)) rfl rfl ?_
      refine o_loadN (v := (MatD.mk d.name d.r).val) rfl rfl rfl ?_
      refine o_call (PutSMK_spec q qx (MatD.mk d.name d.r) (by omega) hdl hqs) rfl rfl ?_
      rintro _ _ ⟨rfl, rfl⟩
      refine g_end (G.imp (hQ_ .normal _) ?_)
      clear hQ_ Q_
      try refine g_then ?_
      repeat (first | refine g_endt ?_ | refine g_end ?_ | refine g_then ?_ | refine g_in_normal ?_ | refine g_then_ret ?_ | refine g_in_ret ?_ | refine g_then_exit ?_ | refine g_in_exit rfl ?_ | refine g_in_exit_ne (by decide) ?_ | refine g_seq ?_ | refine g_region ?_ | refine g_block ?_ | refine g_ret ?_ | refine g_return_n ?_ | refine g_exit ?_ | refine g_skip ?_)
      refine g_hideR fun Q_ hQ_ => ?_
      refine o_assign ?_
      refine g_end (G.imp (hQ_ .normal _) ?_)
      clear hQ_ Q_
      try refine g_then ?_
      refine g_cut (σ := Unit) (ds' := []) (S := fun _ => [(7, .pointer (some ⟨c7, 0, none⟩)), (11, .int .i64 d.num), (14, .bool g)]) (H := fun _ => [cHF c5 hf hb, GrowM c6 [], GrowN c7 cs, cS c8 p, SetM p ax, cS c10 q, SetM q qx2, pMI b2 mp, sC s room next mp, MapANI mp (ds.map InstD.pg), prowsG encI 1 (ds.map InstD.r), Y, X]) (ok := fun _ => True) ?_ ?_
      · skip
        repeat (first | refine g_endt ?_ | refine g_end ?_ | refine g_then ?_ | refine g_in_normal ?_ | refine g_then_ret ?_ | refine g_in_ret ?_ | refine g_then_exit ?_ | refine g_in_exit rfl ?_ | refine g_in_exit_ne (by decide) ?_ | refine g_seq ?_ | refine g_region ?_ | refine g_block ?_ | refine g_ret ?_ | refine g_return_n ?_ | refine g_exit ?_ | refine g_skip ?_)
        refine g_hideR fun Q_ hQ_ => ?_
        first | refine o_field rfl ?_ | refine o_fieldR rfl (by omega) ?_
        refine o_load1 (v := .string d.name) rfl rfl ?_
        refine o_sneq rfl rfl ?_
        refine g_end (G.imp (hQ_ .normal _) ?_)
        clear hQ_ Q_
        try refine g_then ?_
        by_cases hnm : d.name.toList = []
        · first | refine g_seq (g_cond_f rfl (by rw [hnm, empty_toList]; rfl) ?_) | refine g_cond_f rfl (by rw [hnm, empty_toList]; rfl) ?_
          rw [if_pos (show d.pl.name.toList = [] from hnm)] at hg
          repeat (first | refine g_endt ?_ | refine g_end ?_ | refine g_then ?_ | refine g_in_normal ?_ | refine g_then_ret ?_ | refine g_in_ret ?_ | refine g_then_exit ?_ | refine g_in_exit rfl ?_ | refine g_in_exit_ne (by decide) ?_ | refine g_seq ?_ | refine g_region ?_ | refine g_block ?_ | refine g_ret ?_ | refine g_return_n ?_ | refine g_exit ?_ | refine g_skip ?_)
          refine g_hideR fun Q_ hQ_ => ?_
          first | refine o_field rfl ?_ | refine o_fieldR rfl (by omega) ?_
          refine o_load1 (v := .slice d.r.a d.r.len d.r.cap) rfl rfl ?_
          refine o_len rfl rfl ?_
          refine o_move ?_
          refine g_end (G.imp (hQ_ .normal _) ?_)
          clear hQ_ Q_
          try refine g_then ?_
          repeat (first | refine g_endt ?_ | refine g_end ?_ | refine g_then ?_ | refine g_in_normal ?_ | refine g_then_ret ?_ | refine g_in_ret ?_ | refine g_then_exit ?_ | refine g_in_exit rfl ?_ | refine g_in_exit_ne (by decide) ?_ | refine g_seq ?_ | refine g_region ?_ | refine g_block ?_ | refine g_ret ?_ | refine g_return_n ?_ | refine g_exit ?_ | refine g_skip ?_)
          refine g_loop (σ := {i : Nat // i ≤ d.r.zs.length}) (S := fun i => [(5, .pointer (some ⟨c5, 0, none⟩)), (7, .pointer (some ⟨c7, 0, none⟩)), (11, .int .i64 d.num), (14, .bool ((d.r.zs.take i.1).any (fun t => !hr t))), (61, .slice d.r.a d.r.len d.r.cap), (62, .int .i64 (d.r.len : Int)), (63, .int .i64 (i.1 : Int))]) (H := fun _ => [psl encI 1 d.r.a d.r.zs, cHF c5 hf hb, GrowM c6 [], GrowN c7 cs, cS c8 p, SetM p ax, cS c10 q, SetM q qx2, pMI b2 mp, sC s room next mp, MapANI mp (ds.map InstD.pg), prowsG encI 1 (ds.map InstD.r), Y, X]) (μ := fun i => d.r.zs.length - i.1) (s0 := ⟨0, Nat.zero_le _⟩) (Sat.mem ⟨rfl, rfl, rfl, rfl, rfl, rfl, rfl, trivial⟩) ?_
          rintro ⟨i, hi⟩ ρ'
          dsimp only
          by_cases hil : i < d.r.len
          · skip
            repeat (first | refine g_endt ?_ | refine g_end ?_ | refine g_then ?_ | refine g_in_normal ?_ | refine g_then_ret ?_ | refine g_in_ret ?_ | refine g_then_exit ?_ | refine g_in_exit rfl ?_ | refine g_in_exit_ne (by decide) ?_ | refine g_seq ?_ | refine g_region ?_ | refine g_block ?_ | refine g_ret ?_ | refine g_return_n ?_ | refine g_exit ?_ | refine g_skip ?_)
            refine g_hideR fun Q_ hQ_ => ?_
            refine o_lssT (t := true) rfl rfl (decide_eq_true (by omega)) ?_
            refine g_end (G.imp (hQ_ .normal _) ?_)
            clear hQ_ Q_
            try refine g_then ?_
            first | refine g_seq (g_cond_t rfl (by first | rfl | (simp; done) | (simp; omega) | (simp; assumption)) ?_) | refine g_cond_t rfl (by first | rfl | (simp; done) | (simp; omega) | (simp; assumption)) ?_
            obtain ⟨x, hx⟩ : ∃ x, d.r.zs[i]? = some x := ⟨_, List.getElem?_eq_getElem (by omega)⟩
            have htk : d.r.zs.take (i + 1) = d.r.zs.take i ++ [x] := take_snoc d.r.zs i _ hx
            have hany : (d.r.zs.take (i + 1)).any (fun t => !hr t) = ((d.r.zs.take i).any (fun t => !hr t) || !hr x) := by rw [htk, List.any_append]; simp
            obtain ⟨a, ha⟩ : ∃ a, (d.r.zs.take i).any (fun t => !hr t) = a := ⟨_, rfl⟩
            rw [ha] at hany ⊢
            repeat (first | refine g_endt ?_ | refine g_end ?_ | refine g_then ?_ | refine g_in_normal ?_ | refine g_then_ret ?_ | refine g_in_ret ?_ | refine g_then_exit ?_ | refine g_in_exit rfl ?_ | refine g_in_exit_ne (by decide) ?_ | refine g_seq ?_ | refine g_region ?_ | refine g_block ?_ | refine g_ret ?_ | refine g_return_n ?_ | refine g_exit ?_ | refine g_skip ?_)
            repeat (first | refine g_endt ?_ | refine g_end ?_ | refine g_then ?_ | refine g_in_normal ?_ | refine g_then_ret ?_ | refine g_in_ret ?_ | refine g_then_exit ?_ | refine g_in_exit rfl ?_ | refine g_in_exit_ne (by decide) ?_ | refine g_seq ?_ | refine g_region ?_ | refine g_block ?_ | refine g_ret ?_ | refine g_return_n ?_ | refine g_exit ?_ | refine g_skip ?_)
            refine g_hideR fun Q_ hQ_ => ?_
            refine o_indexR (ys := d.r.zs) (i := i) rfl rfl rfl (by omega) hdl.1 rfl ?_
            refine o_loadE0 (ys := d.r.zs) (v := .int .i64 x) rfl hx rfl ?_
            refine o_assign ?_
            refine g_end (G.imp (hQ_ .normal _) ?_)
            clear hQ_ Q_
            try refine g_then ?_
            cases a with
            | true =>
              repeat (first | refine g_endt ?_ | refine g_end ?_ | refine g_then ?_ | refine g_in_normal ?_ | refine g_then_ret ?_ | refine g_in_ret ?_ | refine g_then_exit ?_ | refine g_in_exit rfl ?_ | refine g_in_exit_ne (by decide) ?_ | refine g_seq ?_ | refine g_region ?_ | refine g_block ?_ | refine g_ret ?_ | refine g_return_n ?_ | refine g_exit ?_ | refine g_skip ?_)
              refine g_hideR fun Q_ hQ_ => ?_
              refine o_move ?_
              refine o_move ?_
              first | refine o_unwanted rfl rfl rfl rfl rfl ?_ | refine o_undef rfl rfl rfl ?_
              first | (refine o_want rfl rfl rfl rfl rfl ?_; refine o_move ?_) | refine o_unwanted rfl rfl rfl rfl rfl ?_ | refine o_undef rfl rfl rfl ?_
              first | refine o_unwanted rfl rfl rfl rfl rfl ?_ | refine o_undef rfl rfl rfl ?_
              first | (refine o_want rfl rfl rfl rfl rfl ?_; refine o_not rfl ?_) | refine o_unwanted rfl rfl rfl rfl rfl ?_ | refine o_undef rfl rfl rfl ?_
              first | refine o_pick_t rfl rfl ?_ | refine o_pick_f rfl rfl ?_
              refine o_assign ?_
              refine g_end (G.imp (hQ_ .normal _) ?_)
              clear hQ_ Q_
              try refine g_then ?_
              repeat (first | refine g_endt ?_ | refine g_end ?_ | refine g_then ?_ | refine g_in_normal ?_ | refine g_then_ret ?_ | refine g_in_ret ?_ | refine g_then_exit ?_ | refine g_in_exit rfl ?_ | refine g_in_exit_ne (by decide) ?_ | refine g_seq ?_ | refine g_region ?_ | refine g_block ?_ | refine g_ret ?_ | refine g_return_n ?_ | refine g_exit ?_ | refine g_skip ?_)
              repeat (first | refine g_endt ?_ | refine g_end ?_ | refine g_then ?_ | refine g_in_normal ?_ | refine g_then_ret ?_ | refine g_in_ret ?_ | refine g_then_exit ?_ | refine g_in_exit rfl ?_ | refine g_in_exit_ne (by decide) ?_ | refine g_seq ?_ | refine g_region ?_ | refine g_block ?_ | refine g_ret ?_ | refine g_return_n ?_ | refine g_exit ?_ | refine g_skip ?_)
              refine g_hideR fun Q_ hQ_ => ?_
              refine o_add (c := ((i + 1 : Nat) : Int)) rfl rfl (by omega) (by omega) (by omega) ?_
              refine o_move ?_
              refine g_end (G.imp (hQ_ .normal _) ?_)
              clear hQ_ Q_
              try refine g_then ?_
              repeat (first | refine g_endt ?_ | refine g_end ?_ | refine g_then ?_ | refine g_in_normal ?_ | refine g_then_ret ?_ | refine g_in_ret ?_ | refine g_then_exit ?_ | refine g_in_exit rfl ?_ | refine g_in_exit_ne (by decide) ?_ | refine g_seq ?_ | refine g_region ?_ | refine g_block ?_ | refine g_ret ?_ | refine g_return_n ?_ | refine g_exit ?_ | refine g_skip ?_)
              exact g_meets ⟨i + 1, by omega⟩ (by show d.r.zs.length - (i + 1) < d.r.zs.length - i; omega) (Sat.mem ⟨rfl, rfl, rfl, by dsimp only; rw [hany]; rfl, rfl, rfl, rfl, trivial⟩)
            | false =>
              repeat (first | refine g_endt ?_ | refine g_end ?_ | refine g_then ?_ | refine g_in_normal ?_ | refine g_then_ret ?_ | refine g_in_ret ?_ | refine g_then_exit ?_ | refine g_in_exit rfl ?_ | refine g_in_exit_ne (by decide) ?_ | refine g_seq ?_ | refine g_region ?_ | refine g_block ?_ | refine g_ret ?_ | refine g_return_n ?_ | refine g_exit ?_ | refine g_skip ?_)
              refine g_hideR fun Q_ hQ_ => ?_
              refine o_move ?_
              refine o_move ?_
              refine o_want rfl rfl rfl rfl rfl (o_load1 (v := .func (.func hf) #[] hb.toArray) rfl rfl ?_)
              first | (refine o_want rfl rfl rfl rfl rfl ?_; refine o_move ?_) | refine o_unwanted rfl rfl rfl rfl rfl ?_ | refine o_undef rfl rfl rfl ?_
              refine o_want rfl rfl rfl rfl rfl (o_callc (cap := hb) (hh x) rfl rfl rfl ?_)
              rintro _ _ ⟨rfl, rfl⟩
              first | (refine o_want rfl rfl rfl rfl rfl ?_; refine o_not rfl ?_) | refine o_unwanted rfl rfl rfl rfl rfl ?_ | refine o_undef rfl rfl rfl ?_
              first | refine o_pick_t rfl rfl ?_ | refine o_pick_f rfl rfl ?_
              refine o_assign ?_
              refine g_end (G.imp (hQ_ .normal _) ?_)
              clear hQ_ Q_
              try refine g_then ?_
              repeat (first | refine g_endt ?_ | refine g_end ?_ | refine g_then ?_ | refine g_in_normal ?_ | refine g_then_ret ?_ | refine g_in_ret ?_ | refine g_then_exit ?_ | refine g_in_exit rfl ?_ | refine g_in_exit_ne (by decide) ?_ | refine g_seq ?_ | refine g_region ?_ | refine g_block ?_ | refine g_ret ?_ | refine g_return_n ?_ | refine g_exit ?_ | refine g_skip ?_)
              repeat (first | refine g_endt ?_ | refine g_end ?_ | refine g_then ?_ | refine g_in_normal ?_ | refine g_then_ret ?_ | refine g_in_ret ?_ | refine g_then_exit ?_ | refine g_in_exit rfl ?_ | refine g_in_exit_ne (by decide) ?_ | refine g_seq ?_ | refine g_region ?_ | refine g_block ?_ | refine g_ret ?_ | refine g_return_n ?_ | refine g_exit ?_ | refine g_skip ?_)
              refine g_hideR fun Q_ hQ_ => ?_
              refine o_add (c := ((i + 1 : Nat) : Int)) rfl rfl (by omega) (by omega) (by omega) ?_
              refine o_move ?_
              refine g_end (G.imp (hQ_ .normal _) ?_)
              clear hQ_ Q_
              try refine g_then ?_
              repeat (first | refine g_endt ?_ | refine g_end ?_ | refine g_then ?_ | refine g_in_normal ?_ | refine g_then_ret ?_ | refine g_in_ret ?_ | refine g_then_exit ?_ | refine g_in_exit rfl ?_ | refine g_in_exit_ne (by decide) ?_ | refine g_seq ?_ | refine g_region ?_ | refine g_block ?_ | refine g_ret ?_ | refine g_return_n ?_ | refine g_exit ?_ | refine g_skip ?_)
              exact g_meets ⟨i + 1, by omega⟩ (by show d.r.zs.length - (i + 1) < d.r.zs.length - i; omega) (Sat.mem ⟨rfl, rfl, rfl, by dsimp only; rw [hany]; rfl, rfl, rfl, rfl, trivial⟩)
          · skip
            repeat (first | refine g_endt ?_ | refine g_end ?_ | refine g_then ?_ | refine g_in_normal ?_ | refine g_then_ret ?_ | refine g_in_ret ?_ | refine g_then_exit ?_ | refine g_in_exit rfl ?_ | refine g_in_exit_ne (by decide) ?_ | refine g_seq ?_ | refine g_region ?_ | refine g_block ?_ | refine g_ret ?_ | refine g_return_n ?_ | refine g_exit ?_ | refine g_skip ?_)
            refine g_hideR fun Q_ hQ_ => ?_
            refine o_lssT (t := false) rfl rfl (decide_eq_false (by omega)) ?_
            refine g_end (G.imp (hQ_ .normal _) ?_)
            clear hQ_ Q_
            try refine g_then ?_
            first | refine g_seq (g_cond_f rfl (by first | rfl | (simp; done) | (simp; omega) | (simp; assumption)) ?_) | refine g_cond_f rfl (by first | rfl | (simp; done) | (simp; omega) | (simp; assumption)) ?_
            repeat (first | refine g_endt ?_ | refine g_end ?_ | refine g_then ?_ | refine g_in_normal ?_ | refine g_then_ret ?_ | refine g_in_ret ?_ | refine g_then_exit ?_ | refine g_in_exit rfl ?_ | refine g_in_exit_ne (by decide) ?_ | refine g_seq ?_ | refine g_region ?_ | refine g_block ?_ | refine g_ret ?_ | refine g_return_n ?_ | refine g_exit ?_ | refine g_skip ?_)
            have hall : d.r.zs.take i = d.r.zs := List.take_of_length_le (by omega)
            exact g_meets () trivial (Sat.mem ⟨rfl, rfl, by show Value.bool _ = Value.bool g; rw [hall]; exact congrArg Value.bool hg, trivial⟩)
        · first | refine g_seq (g_cond_t rfl (by rw [empty_toList]; simpa using hnm) ?_) | refine g_cond_t rfl (by rw [empty_toList]; simpa using hnm) ?_
          rw [if_neg (show ¬ d.pl.name.toList = [] from hnm)] at hg
          obtain ⟨hb', hhb⟩ : ∃ hb', hasC MatP.cmp ax (MatD.mk d.name d.r).pl = hb' := ⟨_, rfl⟩
          have hgg : (!hb') = g := by rw [← hhb]; exact hg
          subst hgg
          repeat (first | refine g_endt ?_ | refine g_end ?_ | refine g_then ?_ | refine g_in_normal ?_ | refine g_then_ret ?_ | refine g_in_ret ?_ | refine g_then_exit ?_ | refine g_in_exit rfl ?_ | refine g_in_exit_ne (by decide) ?_ | refine g_seq ?_ | refine g_region ?_ | refine g_block ?_ | refine g_ret ?_ | refine g_return_n ?_ | refine g_exit ?_ | refine g_skip ?_)
          refine g_hideR fun Q_ hQ_ => ?_
          refine o_load1 (v := .pointer (some ⟨p, 0, none⟩)) rfl rfl ?_
          refine o_loadN (v := (MatD.mk d.name d.r).val) rfl rfl rfl ?_
          refine o_call (PlaceSMK_spec p ax (MatD.mk d.name d.r) (by omega) hdl hhb) rfl rfl ?_
          rintro _ _ ⟨k, rfl, rfl⟩
          refine o_move ?_
          refine o_extract rfl rfl ?_
          refine o_extract rfl rfl ?_
          refine o_assign ?_
          refine o_assign ?_
          refine g_end (G.imp (hQ_ .normal _) ?_)
          clear hQ_ Q_
          try refine g_then ?_
          repeat (first | refine g_endt ?_ | refine g_end ?_ | refine g_then ?_ | refine g_in_normal ?_ | refine g_then_ret ?_ | refine g_in_ret ?_ | refine g_then_exit ?_ | refine g_in_exit rfl ?_ | refine g_in_exit_ne (by decide) ?_ | refine g_seq ?_ | refine g_region ?_ | refine g_block ?_ | refine g_ret ?_ | refine g_return_n ?_ | refine g_exit ?_ | refine g_skip ?_)
          refine g_hideR fun Q_ hQ_ => ?_
          refine o_move ?_
          refine o_not rfl ?_
          refine o_assign ?_
          refine g_end (G.imp (hQ_ .normal _) ?_)
          clear hQ_ Q_
          try refine g_then ?_
          repeat (first | refine g_endt ?_ | refine g_end ?_ | refine g_then ?_ | refine g_in_normal ?_ | refine g_then_ret ?_ | refine g_in_ret ?_ | refine g_then_exit ?_ | refine g_in_exit rfl ?_ | refine g_in_exit_ne (by decide) ?_ | refine g_seq ?_ | refine g_region ?_ | refine g_block ?_ | refine g_ret ?_ | refine g_return_n ?_ | refine g_exit ?_ | refine g_skip ?_)
          exact g_meets () trivial (Sat.mem ⟨rfl, rfl, rfl, trivial⟩)
      · intro _ ρ' _
        repeat (first | refine g_endt ?_ | refine g_end ?_ | refine g_then ?_ | refine g_in_normal ?_ | refine g_then_ret ?_ | refine g_in_ret ?_ | refine g_then_exit ?_ | refine g_in_exit rfl ?_ | refine g_in_exit_ne (by decide) ?_ | refine g_seq ?_ | refine g_region ?_ | refine g_block ?_ | refine g_ret ?_ | refine g_return_n ?_ | refine g_exit ?_ | refine g_skip ?_)
        refine g_hideR fun Q_ hQ_ => ?_
        refine o_move ?_
        refine g_end (G.imp (hQ_ .normal _) ?_)
        clear hQ_ Q_
        try refine g_then ?_
        cases g with
        | true =>
          rw [if_pos rfl] at hcs
          first | refine g_seq (g_cond_t rfl (by first | rfl | (simp; done) | (simp; omega) | (simp; assumption)) ?_) | refine g_cond_t rfl (by first | rfl | (simp; done) | (simp; omega) | (simp; assumption)) ?_
          refine openGN c7 cs fun S e => ?_
          repeat (first | refine g_endt ?_ | refine g_end ?_ | refine g_then ?_ | refine g_in_normal ?_ | refine g_then_ret ?_ | refine g_in_ret ?_ | refine g_then_exit ?_ | refine g_in_exit rfl ?_ | refine g_in_exit_ne (by decide) ?_ | refine g_seq ?_ | refine g_region ?_ | refine g_block ?_ | refine g_ret ?_ | refine g_return_n ?_ | refine g_exit ?_ | refine g_skip ?_)
          refine g_hideR fun Q_ hQ_ => ?_
          refine o_load1 (v := .slice S cs.length e) rfl rfl ?_
          refine o_move ?_
          refine o_litP (e := 3) encI [d.num] #[.int .i64 (d.num)] (fun w => by kernel_rfl) (rfl) (by simp [maxLen]) fun _ => ?_
          refine o_append (xs := cs) (ys := [d.num]) (by first | rfl | (simp only [List.length_map, List.length_take, List.length_append]; first | rfl | (congr 1; omega))) rfl rfl rfl rfl (fun _ => .inr trivial) (by simp [maxLen]; omega) (by simp; omega) fun S2 e2 => ?_
          refine o_store (v := .slice S2 (cs.length + 1) e2) rfl rfl rfl rfl rfl ?_
          refine g_end (G.imp (hQ_ .normal _) ?_)
          clear hQ_ Q_
          try refine g_then ?_
          refine G.norm c7 #[.slice S2 (cs.length + 1) e2] rfl ?_
          refine shutGN c7 (cs ++ [d.num]) S2 e2 (n := cs.length + 1) (by simp) ?_
          rw [show cs ++ [d.num] = cs2 from hcs.symm]
          repeat (first | refine g_endt ?_ | refine g_end ?_ | refine g_then ?_ | refine g_in_normal ?_ | refine g_then_ret ?_ | refine g_in_ret ?_ | refine g_then_exit ?_ | refine g_in_exit rfl ?_ | refine g_in_exit_ne (by decide) ?_ | refine g_seq ?_ | refine g_region ?_ | refine g_block ?_ | refine g_ret ?_ | refine g_return_n ?_ | refine g_exit ?_ | refine g_skip ?_)
          exact g_next
        | false =>
          rw [if_neg (by decide), List.append_nil] at hcs
          subst hcs
          first | refine g_seq (g_cond_f rfl (by first | rfl | (simp; done) | (simp; omega) | (simp; assumption)) ?_) | refine g_cond_f rfl (by first | rfl | (simp; done) | (simp; omega) | (simp; assumption)) ?_
          repeat (first | refine g_endt ?_ | refine g_end ?_ | refine g_then ?_ | refine g_in_normal ?_ | refine g_then_ret ?_ | refine g_in_ret ?_ | refine g_then_exit ?_ | refine g_in_exit rfl ?_ | refine g_in_exit_ne (by decide) ?_ | refine g_seq ?_ | refine g_region ?_ | refine g_block ?_ | refine g_ret ?_ | refine g_return_n ?_ | refine g_exit ?_ | refine g_skip ?_)
          exact g_next
    · intro D
      repeat (first | refine g_endt ?_ | refine g_end ?_ | refine g_then ?_ | refine g_in_normal ?_ | refine g_then_ret ?_ | refine g_in_ret ?_ | refine g_then_exit ?_ | refine g_in_exit rfl ?_ | refine g_in_exit_ne (by decide) ?_ | refine g_seq ?_ | refine g_region ?_ | refine g_block ?_ | refine g_ret ?_ | refine g_return_n ?_ | refine g_exit ?_ | refine g_skip ?_)
      rw [hds]
      unfold upsI at hu
      obtain ⟨st, hst⟩ : ∃ st, st = allM (ls.map InstP.m) := ⟨_, rfl⟩
      rw [← hst] at hu ⊢
      rw [hd]
      refine shutSt s room next ls ds mp hI hds ?_
      refine openSM p (allM mps) fun ys h1 h2 h3 => ?_
      have hyl : ys.length ≤ 1000000 := by have := congrArg List.length h1; rw [List.length_map] at this; omega
      have hyr : ∀ d ∈ ys, d.r.zs.length ≤ 1000000 := fun d hd => hat d.pl (by rw [← h1]; exact List.mem_map_of_mem hd)
      have hu2 : (ys.map MatD.pl).filter (fun m => !hasC MatP.cmp st m) = us := by rw [h1]; exact hu
      have hstl : st.length ≤ 1000000 := by
        rw [hst]
        have := allM_len (ls.map InstP.m)
        have e := congrArg List.length hds
        rw [List.length_map] at this e
        omega
      repeat (first | refine g_endt ?_ | refine g_end ?_ | refine g_then ?_ | refine g_in_normal ?_ | refine g_then_ret ?_ | refine g_in_ret ?_ | refine g_then_exit ?_ | refine g_in_exit rfl ?_ | refine g_in_exit_ne (by decide) ?_ | refine g_seq ?_ | refine g_region ?_ | refine g_block ?_ | refine g_ret ?_ | refine g_return_n ?_ | refine g_exit ?_ | refine g_skip ?_)
      refine g_hideR fun Q_ hQ_ => ?_
      refine o_load1 (v := .pointer (some ⟨p, 0, none⟩)) rfl rfl ?_
      refine o_call (AllMT_spec p) rfl rfl ?_
      rintro _ _ ⟨b3, rfl, rfl⟩
      refine g_end (G.imp (hQ_ .normal _) ?_)
      clear hQ_ Q_
      try refine g_then ?_
      repeat (first | refine g_endt ?_ | refine g_end ?_ | refine g_then ?_ | refine g_in_normal ?_ | refine g_then_ret ?_ | refine g_in_ret ?_ | refine g_then_exit ?_ | refine g_in_exit rfl ?_ | refine g_in_exit_ne (by decide) ?_ | refine g_seq ?_ | refine g_region ?_ | refine g_block ?_ | refine g_ret ?_ | refine g_return_n ?_ | refine g_exit ?_ | refine g_skip ?_)
      refine g_range (ps := [82]) (lb := [.pointer (some ⟨b3, 0, none⟩)]) (enc := MatD.enc') (xs := ys) rfl
        (fun pre => [GrowM c6 ((pre.map MatD.pl).filter (fun m => !hasC MatP.cmp st m)), GrowN c7 dn, cS c10 q, SetM q st, pMS b3 p, SetAMT p ys, prowsG encI 1 (ys.map MatD.r), StP s room next ls, Y, X])
        (fun c pre => [pu False])
        (fun K => All1MT_iter p b3 ys (by omega) [K, GrowM c6 [], GrowN c7 dn, cS c10 q, SetM q st, pMS b3 p, SetAMT p ys, prowsG encI 1 (ys.map MatD.r), StP s room next ls, Y, X])
        (fun _ => rfl) (tk := (inferInstance : Take _ [GrowM c6 [], GrowN c7 dn, cS c10 q, SetM q st, pMS b3 p, SetAMT p ys, prowsG encI 1 (ys.map MatD.r), StP s room next ls, Y, X] _)) ?_ ?_ ?_
      · intro w0 F l r pre d hp
        have hlen3 : pre.length < ys.length := by
          obtain ⟨t, ht⟩ := hp
          have := congrArg List.length ht
          simp at this
          omega
        have hdm : d ∈ ys := hp.subset (by simp)
        have hdl := h3 _ (List.mem_map_of_mem (f := MatD.r) hdm)
        have hdt := hyr d hdm
        obtain ⟨t, ht⟩ : ∃ t, hasC MatP.cmp st d.pl = t := ⟨_, rfl⟩
        have hcl : ((pre.map MatD.pl).filter (fun m => !hasC MatP.cmp st m)).length ≤ pre.length := by have := List.length_filter_le (fun m => !hasC MatP.cmp st m) (pre.map MatD.pl); rw [List.length_map] at this; exact this
        have hcs : ((pre ++ [d]).map MatD.pl).filter (fun m => !hasC MatP.cmp st m) = (pre.map MatD.pl).filter (fun m => !hasC MatP.cmp st m) ++ if t = true then [] else [d.pl] := by
          rw [List.map_append, List.filter_append]
          cases t <;> simp [ht]
        generalize ((pre ++ [d]).map MatD.pl).filter (fun m => !hasC MatP.cmp st m) = cs2 at hcs ⊢
        generalize (pre.map MatD.pl).filter (fun m => !hasC MatP.cmp st m) = cs at hcl hcs ⊢
        refine G.rowG (enc := encI) (sz := 1) (List.mem_map_of_mem (f := MatD.r) hdm) ?_
        repeat (first | refine g_endt ?_ | refine g_end ?_ | refine g_then ?_ | refine g_in_normal ?_ | refine g_then_ret ?_ | refine g_in_ret ?_ | refine g_then_exit ?_ | refine g_in_exit rfl ?_ | refine g_in_exit_ne (by decide) ?_ | refine g_seq ?_ | refine g_region ?_ | refine g_block ?_ | refine g_ret ?_ | refine g_return_n ?_ | refine g_exit ?_ | refine g_skip ?_)
        refine g_hideR fun Q_ hQ_ => ?_
        refine o_alloc fun c19 => ?_
        refine o_store (v := d.val) rfl rfl rfl rfl rfl ?_
        refine g_end (G.imp (hQ_ .normal _) ?_)
        clear hQ_ Q_
        try refine g_then ?_
        refine G.norm c19 d.val.cells rfl ?_
        repeat (first | refine g_endt ?_ | refine g_end ?_ | refine g_then ?_ | refine g_in_normal ?_ | refine g_then_ret ?_ | refine g_in_ret ?_ | refine g_then_exit ?_ | refine g_in_exit rfl ?_ | refine g_in_exit_ne (by decide) ?_ | refine g_seq ?_ | refine g_region ?_ | refine g_block ?_ | refine g_ret ?_ | refine g_return_n ?_ | refine g_exit ?_ | refine g_skip ?_)
        refine g_begin ?_
        refine G.dup (psl encI 1 d.r.a d.r.zs) ?_
        repeat (first | refine g_endt ?_ | refine g_end ?_ | refine g_then ?_ | refine g_in_normal ?_ | refine g_then_ret ?_ | refine g_in_ret ?_ | refine g_then_exit ?_ | refine g_in_exit rfl ?_ | refine g_in_exit_ne (by decide) ?_ | refine g_seq ?_ | refine g_region ?_ | refine g_block ?_ | refine g_ret ?_ | refine g_return_n ?_ | refine g_exit ?_ | refine g_skip ?_)
        refine g_hideR fun Q_ hQ_ => ?_
        refine o_load1 (v := .pointer (some ⟨q, 0, none⟩)) rfl rfl ?_
        refine o_loadN (v := d.val) rfl rfl rfl ?_
        refine o_call (PlaceSMK_spec q st d (by omega) hdl ht) rfl rfl ?_
        rintro _ _ ⟨k, rfl, rfl⟩
        refine o_move ?_
        refine o_extract rfl rfl ?_
        refine o_extract rfl rfl ?_
        refine o_assign ?_
        refine o_assign ?_
        refine g_end (G.imp (hQ_ .normal _) ?_)
        clear hQ_ Q_
        try refine g_then ?_
        repeat (first | refine g_endt ?_ | refine g_end ?_ | refine g_then ?_ | refine g_in_normal ?_ | refine g_then_ret ?_ | refine g_in_ret ?_ | refine g_then_exit ?_ | refine g_in_exit rfl ?_ | refine g_in_exit_ne (by decide) ?_ | refine g_seq ?_ | refine g_region ?_ | refine g_block ?_ | refine g_ret ?_ | refine g_return_n ?_ | refine g_exit ?_ | refine g_skip ?_)
        refine g_hideR fun Q_ hQ_ => ?_
        refine o_move ?_
        refine o_not rfl ?_
        refine g_end (G.imp (hQ_ .normal _) ?_)
        clear hQ_ Q_
        try refine g_then ?_
        cases t with
        | true =>
          rw [if_pos rfl, List.append_nil] at hcs
          subst hcs
          first | refine g_seq (g_cond_f rfl (by first | rfl | (simp; done) | (simp; omega) | (simp; assumption)) ?_) | refine g_cond_f rfl (by first | rfl | (simp; done) | (simp; omega) | (simp; assumption)) ?_
          repeat (first | refine g_endt ?_ | refine g_end ?_ | refine g_then ?_ | refine g_in_normal ?_ | refine g_then_ret ?_ | refine g_in_ret ?_ | refine g_then_exit ?_ | refine g_in_exit rfl ?_ | refine g_in_exit_ne (by decide) ?_ | refine g_seq ?_ | refine g_region ?_ | refine g_block ?_ | refine g_ret ?_ | refine g_return_n ?_ | refine g_exit ?_ | refine g_skip ?_)
          exact g_next
        | false =>
          rw [if_neg (by decide)] at hcs
          first | refine g_seq (g_cond_t rfl (by first | rfl | (simp; done) | (simp; omega) | (simp; assumption)) ?_) | refine g_cond_t rfl (by first | rfl | (simp; done) | (simp; omega) | (simp; assumption)) ?_
          refine openGM c6 cs fun S e mds g1 g2 => ?_
          have hml3 : mds.length = cs.length := by rw [← g1, List.length_map]
          refine G.nil_slice (α := Int) 3 encI 1 ?_
          repeat (first | refine g_endt ?_ | refine g_end ?_ | refine g_then ?_ | refine g_in_normal ?_ | refine g_then_ret ?_ | refine g_in_ret ?_ | refine g_then_exit ?_ | refine g_in_exit rfl ?_ | refine g_in_exit_ne (by decide) ?_ | refine g_seq ?_ | refine g_region ?_ | refine g_block ?_ | refine g_ret ?_ | refine g_return_n ?_ | refine g_exit ?_ | refine g_skip ?_)
          refine g_hide fun Q_ hQ_ => ?_
          refine g_draw [5,7,8,9] [0,1,2,3,4,5,6,7,8,9] [cellsB c6 #[.slice S cs.length e] 48, cMat c19 d] mixed rfl ?_
          refine ob_q rfl rfl ⟨_, fun X Q h => o_load1 (v := .slice S cs.length e) rfl rfl (g_end (h _ _ ⟨rfl, rfl⟩)), ?_⟩
          first | refine ob_q rfl rfl ⟨_, fun X Q h => o_field rfl (g_end (h _ _ ⟨rfl, rfl⟩)), ?_⟩ | refine ob_q rfl rfl ⟨_, fun X Q h => o_fieldR rfl (by omega) (g_end (h _ _ ⟨rfl, rfl⟩)), ?_⟩
          refine ob_q rfl rfl ⟨_, fun X Q h => o_load1 (v := .string d.name) rfl rfl (g_end (h _ _ ⟨rfl, rfl⟩)), ?_⟩
          first | refine ob_q rfl rfl ⟨_, fun X Q h => o_field rfl (g_end (h _ _ ⟨rfl, rfl⟩)), ?_⟩ | refine ob_q rfl rfl ⟨_, fun X Q h => o_fieldR rfl (by omega) (g_end (h _ _ ⟨rfl, rfl⟩)), ?_⟩
          refine ob_q rfl rfl ⟨_, fun X Q h => o_load1 (v := .slice d.r.a d.r.len d.r.cap) rfl rfl (g_end (h _ _ ⟨rfl, rfl⟩)), ?_⟩
          refine ob_l rfl rfl fun Qz hz => o_append0 (ys := d.r.zs) rfl rfl rfl rfl hdl.1 (by simp [maxLen]; omega) (by omega) fun S5 e5 => ?_
          refine g_end (hz _ _ ⟨_, ob_fin, ?_⟩)
          clear hz Qz
          refine ob_q rfl rfl ⟨_, fun X Q h => o_build (MatD.mk d.name ⟨S5, d.r.len, e5, d.r.zs⟩).val (fun w => by kernel_rfl) (g_end (h _ _ ⟨rfl, rfl⟩)), ?_⟩
          refine ob_l rfl rfl fun Qz hz => o_litP (e := 52) MatD.enc [MatD.mk d.name ⟨S5, d.r.len, e5, d.r.zs⟩] (MatD.mk d.name ⟨S5, d.r.len, e5, d.r.zs⟩).val.cells (fun w => by kernel_rfl) (by simp [MatD.enc]) (by simp [maxLen]) fun _ => ?_
          refine g_end (hz _ _ ⟨_, ob_fin, ?_⟩)
          clear hz Qz
          refine ob_l rfl rfl fun Qz hz => o_append (xs := mds) (ys := [MatD.mk d.name ⟨S5, d.r.len, e5, d.r.zs⟩]) (by rw [hml3]; rfl) rfl rfl rfl rfl (fun _ => .inr trivial) (by simp [maxLen]; omega) (by simp; omega) fun S2 e2 => ?_
          refine g_end (hz _ _ ⟨_, ob_fin, ?_⟩)
          clear hz Qz
          refine ob_s [] rfl rfl rfl fun Qz hz => o_store (v := .slice S2 (mds.length + 1) e2) rfl rfl rfl rfl rfl ?_
          refine g_end (hz _ _ ⟨_, ob_fin, ?_⟩)
          clear hz Qz
          refine ob_nil ?_
          refine G.imp (hQ_ .normal _) ?_
          clear hQ_ Q_
          try refine g_then ?_
          refine G.norm c6 #[.slice S2 (mds.length + 1) e2] rfl ?_
          refine G.bshut (mds ++ [MatD.mk d.name ⟨S5, d.r.len, e5, d.r.zs⟩]) oM (MatD.mk d.name ⟨S5, d.r.len, e5, d.r.zs⟩) mds (by simpa using (List.perm_append_comm (l₁ := [MatD.mk d.name ⟨S5, d.r.len, e5, d.r.zs⟩]) (l₂ := mds))) (tk := (inferInstance : Take _ [oI S5 e5 d.r.zs, bigS mds oM] _)) ?_
          refine shutGM c6 (cs ++ [d.pl]) S2 e2 (mds ++ [MatD.mk d.name ⟨S5, d.r.len, e5, d.r.zs⟩]) (by rw [List.map_append, g1]; rfl) (by rw [List.map_append]; exact g2.snoc' (q := ⟨S5, d.r.len, e5, d.r.zs⟩) hdl) (n := mds.length + 1) (by simp [hml3]) ?_
          rw [← hcs]
          repeat (first | refine g_endt ?_ | refine g_end ?_ | refine g_then ?_ | refine g_in_normal ?_ | refine g_then_ret ?_ | refine g_in_ret ?_ | refine g_then_exit ?_ | refine g_in_exit rfl ?_ | refine g_in_exit_ne (by decide) ?_ | refine g_seq ?_ | refine g_region ?_ | refine g_block ?_ | refine g_ret ?_ | refine g_return_n ?_ | refine g_exit ?_ | refine g_skip ?_)
          exact g_next
      · intro D
        rw [hu2]
        refine openGM c6 us fun S1 e1 mds g1 g2 => ?_
        refine openGN c7 dn fun S2 e2 => ?_
        refine G.bring [osl 52 MatD.enc 2 S1 e1 mds] (G.frz ?_)
        refine G.bring [oI S2 e2 dn] (G.frz ?_)
        refine shutUp S1 us mds g1 g2 ?_
        repeat (first | refine g_endt ?_ | refine g_end ?_ | refine g_then ?_ | refine g_in_normal ?_ | refine g_then_ret ?_ | refine g_in_ret ?_ | refine g_then_exit ?_ | refine g_in_exit rfl ?_ | refine g_in_exit_ne (by decide) ?_ | refine g_seq ?_ | refine g_region ?_ | refine g_block ?_ | refine g_ret ?_ | refine g_return_n ?_ | refine g_exit ?_ | refine g_skip ?_)
        repeat (first | refine g_endt ?_ | refine g_end ?_ | refine g_then ?_ | refine g_in_normal ?_ | refine g_then_ret ?_ | refine g_in_ret ?_ | refine g_then_exit ?_ | refine g_in_exit rfl ?_ | refine g_in_exit_ne (by decide) ?_ | refine g_seq ?_ | refine g_region ?_ | refine g_block ?_ | refine g_ret ?_ | refine g_return_n ?_ | refine g_exit ?_ | refine g_skip ?_)
        refine g_hide fun Q_ hQ_ => ?_
        refine g_draw [2,3] [0,1,2,3] [cellsB c6 #[.slice S1 us.length e1] 48, cellsB c7 #[.slice S2 dn.length e2] 22] mixed rfl ?_
        refine ob_q rfl rfl ⟨_, fun X Q h => o_load1 (v := .slice S1 us.length e1) rfl rfl (g_end (h _ _ ⟨rfl, rfl⟩)), ?_⟩
        refine ob_q rfl rfl ⟨_, fun X Q h => o_load1 (v := .slice S2 dn.length e2) rfl rfl (g_end (h _ _ ⟨rfl, rfl⟩)), ?_⟩
        refine ob_l rfl rfl fun Qz hz => o_store (v := .slice S1 us.length e1) rfl rfl rfl rfl rfl ?_
        refine G.norm c6 #[.slice S1 us.length e1] rfl ?_
        refine g_end (hz _ _ ⟨_, ob_fin, ?_⟩)
        clear hz Qz
        refine ob_l rfl rfl fun Qz hz => o_store (v := .slice S2 dn.length e2) rfl rfl rfl rfl rfl ?_
        refine G.norm c7 #[.slice S2 dn.length e2] rfl ?_
        refine g_end (hz _ _ ⟨_, ob_fin, ?_⟩)
        clear hz Qz
        refine ob_nil ?_
        refine G.imp (hQ_ .normal _) ?_
        clear hQ_ Q_
        try refine g_then ?_
        repeat (first | refine g_endt ?_ | refine g_end ?_ | refine g_then ?_ | refine g_in_normal ?_ | refine g_then_ret ?_ | refine g_in_ret ?_ | refine g_then_exit ?_ | refine g_in_exit rfl ?_ | refine g_in_exit_ne (by decide) ?_ | refine g_seq ?_ | refine g_region ?_ | refine g_block ?_ | refine g_ret ?_ | refine g_return_n ?_ | refine g_exit ?_ | refine g_skip ?_)
        exact ret2 (K := [UpP S1 us, psl encI 1 S2 dn, StP s room next ls, X, Y]) rfl (resC1 (v := .slice S1 us.length e1) rfl rfl) (resC1 (v := .slice S2 dn.length e2) rfl rfl) ⟨S1, e1, S2, e2, rfl, rfl⟩
      · intro D c pre hp
        exact G.pu fun h => h.elim
    · intro D c pre hp
      exact G.pu fun h => h.elim
  · intro D c pre hp
    exact G.pu fun h => h.elim
end Go.Proofs.Ytkglmhgehccmoaa
/- The law's own example. -/
namespace Go.Proofs.Ytkglmhgehccmoaa
open Go Go.Sl
attribute [local irreducible] Exit.then Exit.inBlock Code.wpIn roundPost bodyPostM runL Ret Meets MeetsD Begin

theorem cmp_same (nm : ByteArray) (x y : List Int) : MatP.cmp ⟨nm, x⟩ ⟨nm, y⟩ = cmpT x y := by
  show (if cmpS nm nm = 0 then cmpT x y else cmpS nm nm) = _
  rw [if_pos]
  exact linS.refl nm
theorem wakes_all (nm : ByteArray) : allM [⟨nm, [1, 2]⟩, ⟨nm, [2, 1]⟩] = [⟨nm, [1, 2]⟩, ⟨nm, [2, 1]⟩] := by
  have e1 : MatP.cmp ⟨nm, [1, 2]⟩ ⟨nm, [2, 1]⟩ = -1 := (cmp_same nm _ _).trans (by decide)
  simp [allM, insC, e1]
theorem wakes_ups (nm : ByteArray) : upsI [⟨nm, [1, 2]⟩, ⟨nm, [2, 1]⟩] [⟨1, 1, nm, [1, 2], false⟩] = [⟨nm, [2, 1]⟩] := by
  have e1 : MatP.cmp ⟨nm, [1, 2]⟩ ⟨nm, [2, 1]⟩ = -1 := (cmp_same nm _ _).trans (by decide)
  have e2 : MatP.cmp ⟨nm, [1, 2]⟩ ⟨nm, [1, 2]⟩ = 0 := (cmp_same nm _ _).trans (by decide)
  unfold upsI
  rw [wakes_all]
  simp [allM, insC, hasC, InstP.m, e1, e2]
theorem wakes_downs (nm : ByteArray) (hn : ¬ nm.toList = []) : downsI [⟨nm, [1, 2]⟩, ⟨nm, [2, 1]⟩] (fun _ => true) [⟨1, 1, nm, [1, 2], false⟩] = [] := by
  have e2 : MatP.cmp ⟨nm, [1, 2]⟩ ⟨nm, [1, 2]⟩ = 0 := (cmp_same nm _ _).trans (by decide)
  have : goesI [⟨nm, [1, 2]⟩, ⟨nm, [2, 1]⟩] (fun _ => true) ⟨1, 1, nm, [1, 2], false⟩ = false := by
    unfold goesI
    rw [if_neg hn, wakes_all]
    simp [hasC, InstP.m, e2]
  simp [downsI, this]
theorem a_toList : ¬ ({ data := #[97] } : ByteArray).toList = [] := by rw [ByteArray.toList_eq]; decide
theorem wakes14a_spec (t : Int) : Ctr Try.prog 33 ([.int .i64 t] ++ []) [emp] (fun v M => v = .bool ((fun _ : Int => true) t) ∧ M = [emp]) := by
  refine spec_of Try.func33 rfl Try.ntmps33 rfl fun w0 F => ?_
  -- hide
  -- ponder/ponderlaw14.wakes$1
  repeat (first | refine g_endt ?_ | refine g_end ?_ | refine g_then ?_ | refine g_in_normal ?_ | refine g_then_ret ?_ | refine g_in_ret ?_ | refine g_then_exit ?_ | refine g_in_exit rfl ?_ | refine g_in_exit_ne (by decide) ?_ | refine g_seq ?_ | refine g_region ?_ | refine g_block ?_ | refine g_ret ?_ | refine g_return_n ?_ | refine g_exit ?_ | refine g_skip ?_)
  refine g_hideR fun Q_ hQ_ => ?_
  refine o_assign ?_
  refine g_end (G.imp (hQ_ .normal _) ?_)
  clear hQ_ Q_
  try refine g_then ?_
  repeat (first | refine g_endt ?_ | refine g_end ?_ | refine g_then ?_ | refine g_in_normal ?_ | refine g_then_ret ?_ | refine g_in_ret ?_ | refine g_then_exit ?_ | refine g_in_exit rfl ?_ | refine g_in_exit_ne (by decide) ?_ | refine g_seq ?_ | refine g_region ?_ | refine g_block ?_ | refine g_ret ?_ | refine g_return_n ?_ | refine g_exit ?_ | refine g_skip ?_)
  refine g_hideR fun Q_ hQ_ => ?_
  refine o_assign ?_
  refine g_end (G.imp (hQ_ .normal _) ?_)
  clear hQ_ Q_
  try refine g_then ?_
  repeat (first | refine g_endt ?_ | refine g_end ?_ | refine g_then ?_ | refine g_in_normal ?_ | refine g_then_ret ?_ | refine g_in_ret ?_ | refine g_then_exit ?_ | refine g_in_exit rfl ?_ | refine g_in_exit_ne (by decide) ?_ | refine g_seq ?_ | refine g_region ?_ | refine g_block ?_ | refine g_ret ?_ | refine g_return_n ?_ | refine g_exit ?_ | refine g_skip ?_)
  exact ret1 (K := [emp]) rfl (resT (v := .bool true) rfl) ⟨rfl, rfl⟩
abbrev nmA : ByteArray := { data := #[97] }
set_option maxHeartbeats 2000000 in
theorem wakes14_spec : Ctr Try.prog 8 [] [] (fun v M => v = .bool true ∧ M = []) := by
  refine spec_of Try.func8 rfl Try.ntmps8 rfl fun w0 F => ?_
  -- hide
  -- ponder/ponderlaw14.wakes
  obtain ⟨ls, hls⟩ : ∃ ls : List InstP, ls = [⟨1, 1, nmA, [1, 2], false⟩] := ⟨_, rfl⟩
  have hput : putI 5 1 [] ⟨1, 1, nmA, [1, 2], false⟩ = (0, 2, ls) := by rw [hls]; rfl
  repeat (first | refine g_endt ?_ | refine g_end ?_ | refine g_then ?_ | refine g_in_normal ?_ | refine g_then_ret ?_ | refine g_in_ret ?_ | refine g_then_exit ?_ | refine g_in_exit rfl ?_ | refine g_in_exit_ne (by decide) ?_ | refine g_seq ?_ | refine g_region ?_ | refine g_block ?_ | refine g_ret ?_ | refine g_return_n ?_ | refine g_exit ?_ | refine g_skip ?_)
  refine g_hideR fun Q_ hQ_ => ?_
  refine o_assign ?_
  refine g_end (G.imp (hQ_ .normal _) ?_)
  clear hQ_ Q_
  try refine g_then ?_
  repeat (first | refine g_endt ?_ | refine g_end ?_ | refine g_then ?_ | refine g_in_normal ?_ | refine g_then_ret ?_ | refine g_in_ret ?_ | refine g_then_exit ?_ | refine g_in_exit rfl ?_ | refine g_in_exit_ne (by decide) ?_ | refine g_seq ?_ | refine g_region ?_ | refine g_block ?_ | refine g_ret ?_ | refine g_return_n ?_ | refine g_exit ?_ | refine g_skip ?_)
  refine g_hideR fun Q_ hQ_ => ?_
  refine o_call (NewG14_spec 5 (by decide) (by decide)) rfl rfl ?_
  rintro _ _ ⟨s, rfl, rfl⟩
  refine o_move ?_
  refine o_extract rfl rfl ?_
  refine o_extract rfl rfl ?_
  refine o_assign ?_
  refine o_assign ?_
  refine g_end (G.imp (hQ_ .normal _) ?_)
  clear hQ_ Q_
  try refine g_then ?_
  repeat (first | refine g_endt ?_ | refine g_end ?_ | refine g_then ?_ | refine g_in_normal ?_ | refine g_then_ret ?_ | refine g_in_ret ?_ | refine g_then_exit ?_ | refine g_in_exit rfl ?_ | refine g_in_exit_ne (by decide) ?_ | refine g_seq ?_ | refine g_region ?_ | refine g_block ?_ | refine g_ret ?_ | refine g_return_n ?_ | refine g_exit ?_ | refine g_skip ?_)
  refine g_hideR fun Q_ hQ_ => ?_
  refine o_move ?_
  refine o_neqT (t := false) rfl rfl rfl ?_
  refine o_move ?_
  first | (refine o_want rfl rfl rfl rfl rfl ?_; refine o_move ?_) | refine o_unwanted rfl rfl rfl rfl rfl ?_ | refine o_undef rfl rfl rfl ?_
  refine o_want rfl rfl rfl rfl rfl (o_peql rfl ?_)
  first | refine o_pick_t rfl rfl ?_ | refine o_pick_f rfl rfl ?_
  refine o_move ?_
  first | (refine o_want rfl rfl rfl rfl rfl ?_; refine o_move ?_) | refine o_unwanted rfl rfl rfl rfl rfl ?_ | refine o_undef rfl rfl rfl ?_
  refine o_want rfl rfl rfl rfl rfl (o_litP (e := 3) encI [1, 2] #[.int .i64 1, .int .i64 2] (fun w => by kernel_rfl) rfl (by simp [maxLen]) fun b => ?_)
  refine o_want rfl rfl rfl rfl rfl (o_build (InstV.mk 1 1 nmA (some ⟨b, 0, none⟩) 2 2 false).val (fun w => by kernel_rfl) ?_)
  refine o_want rfl rfl rfl rfl rfl (o_call (Put14_spec s 5 1 [] (InstV.mk 1 1 nmA (some ⟨b, 0, none⟩) 2 2 false) [1, 2] rfl (show 2 ≤ 1000000 by decide) (by decide) hput) rfl rfl ?_)
  rintro _ _ ⟨rfl, rfl⟩
  refine o_want rfl rfl rfl rfl rfl (o_neqT (t := false) rfl rfl rfl ?_)
  first | refine o_pick_t rfl rfl ?_ | refine o_pick_f rfl rfl ?_
  refine g_end (G.imp (hQ_ .normal _) ?_)
  clear hQ_ Q_
  try refine g_then ?_
  first | refine g_seq (g_cond_f rfl (by first | rfl | (simp; done) | (simp; omega) | (simp; assumption)) ?_) | refine g_cond_f rfl (by first | rfl | (simp; done) | (simp; omega) | (simp; assumption)) ?_
  repeat (first | refine g_endt ?_ | refine g_end ?_ | refine g_then ?_ | refine g_in_normal ?_ | refine g_then_ret ?_ | refine g_in_ret ?_ | refine g_then_exit ?_ | refine g_in_exit rfl ?_ | refine g_in_exit_ne (by decide) ?_ | refine g_seq ?_ | refine g_region ?_ | refine g_block ?_ | refine g_ret ?_ | refine g_return_n ?_ | refine g_exit ?_ | refine g_skip ?_)
  refine g_hideR fun Q_ hQ_ => ?_
  refine o_litP (e := 3) encI [1, 2] #[.int .i64 1, .int .i64 2] (fun w => by kernel_rfl) rfl (by simp [maxLen]) fun b1 => ?_
  refine o_build (MatD.mk nmA ⟨some ⟨b1, 0, none⟩, 2, 2, [1, 2]⟩).val (fun w => by kernel_rfl) ?_
  refine o_litP (e := 3) encI [2, 1] #[.int .i64 2, .int .i64 1] (fun w => by kernel_rfl) rfl (by simp [maxLen]) fun b2 => ?_
  refine o_build (MatD.mk nmA ⟨some ⟨b2, 0, none⟩, 2, 2, [2, 1]⟩).val (fun w => by kernel_rfl) ?_
  refine o_litP (e := 52) MatD.enc [MatD.mk nmA ⟨some ⟨b1, 0, none⟩, 2, 2, [1, 2]⟩, MatD.mk nmA ⟨some ⟨b2, 0, none⟩, 2, 2, [2, 1]⟩] #[.string nmA, .slice (some ⟨b1, 0, none⟩) 2 2, .string nmA, .slice (some ⟨b2, 0, none⟩) 2 2] (fun w => by kernel_rfl) (by simp [MatD.enc, MatD.val, Value.cells]) (by simp [maxLen]) fun b3 => ?_
  refine o_assign ?_
  refine g_end (G.imp (hQ_ .normal _) ?_)
  clear hQ_ Q_
  try refine g_then ?_
  obtain ⟨m1, hm1⟩ : ∃ m1 : MatD, m1 = MatD.mk nmA ⟨some ⟨b1, 0, none⟩, 2, 2, [1, 2]⟩ := ⟨_, rfl⟩
  obtain ⟨m2, hm2⟩ : ∃ m2 : MatD, m2 = MatD.mk nmA ⟨some ⟨b2, 0, none⟩, 2, 2, [2, 1]⟩ := ⟨_, rfl⟩
  rw [← hm1, ← hm2]
  have hp1 : m1.pl = ⟨nmA, [1, 2]⟩ := by rw [hm1]; rfl
  have hp2 : m2.pl = ⟨nmA, [2, 1]⟩ := by rw [hm2]; rfl
  have hr1 : m1.r = ⟨some ⟨b1, 0, none⟩, 2, 2, [1, 2]⟩ := by rw [hm1]
  have hr2 : m2.r = ⟨some ⟨b2, 0, none⟩, 2, 2, [2, 1]⟩ := by rw [hm2]
  refine G.rowNil (α := Int) encI 1 0 ?_
  refine G.rowSnoc (enc := encI) (sz := 1) (rs := List.replicate 0 (⟨none, 0, 0, []⟩ : RowG Int)) m1.r (tk := by rw [hr1]; show Take _ [prowsG encI 1 (List.replicate 0 (⟨none, 0, 0, []⟩ : RowG Int)), psl encI 1 (some ⟨b1, 0, none⟩) [1, 2]] _; infer_instance) ?_
  refine G.rowSnoc (enc := encI) (sz := 1) m2.r (tk := by rw [hr2]; show Take _ [prowsG encI 1 (List.replicate 0 (⟨none, 0, 0, []⟩ : RowG Int) ++ [m1.r]), psl encI 1 (some ⟨b2, 0, none⟩) [2, 1]] _; infer_instance) ?_
  have hok : RowsOk ([m1, m2].map MatD.r) := fun q hq => by
    simp only [List.map_cons, List.map_nil, List.mem_cons, List.not_mem_nil, or_false] at hq
    rcases hq with rfl | rfl
    · rw [hr1]; exact ⟨rfl, show 2 ≤ 4611686018427387904 by decide⟩
    · rw [hr2]; exact ⟨rfl, show 2 ≤ 4611686018427387904 by decide⟩
  have hu : upsI ([m1, m2].map MatD.pl) ls = [⟨nmA, [2, 1]⟩] := by rw [hls]; simp only [List.map_cons, List.map_nil, hp1, hp2]; exact wakes_ups nmA
  have hd : downsI ([m1, m2].map MatD.pl) (fun _ => true) ls = [] := by rw [hls]; simp only [List.map_cons, List.map_nil, hp1, hp2]; exact wakes_downs nmA a_toList
  have hlt : ∀ x ∈ ls, x.tags.length ≤ 1000000 := by rw [hls]; intro x hx; rw [List.mem_singleton] at hx; subst hx; decide
  have hmt : ∀ d ∈ [m1, m2], d.r.zs.length ≤ 1000000 := by
    intro d hd
    simp only [List.mem_cons, List.not_mem_nil, or_false] at hd
    rcases hd with rfl | rfl
    · rw [hr1]; exact (show 2 ≤ 1000000 by decide)
    · rw [hr2]; exact (show 2 ≤ 1000000 by decide)
  change G _ _ (prowsG encI 1 ([m1, m2].map MatD.r) :: _) _
  refine G.emp_in ?_
  repeat (first | refine g_endt ?_ | refine g_end ?_ | refine g_then ?_ | refine g_in_normal ?_ | refine g_then_ret ?_ | refine g_in_ret ?_ | refine g_then_exit ?_ | refine g_in_exit rfl ?_ | refine g_in_exit_ne (by decide) ?_ | refine g_seq ?_ | refine g_region ?_ | refine g_block ?_ | refine g_ret ?_ | refine g_return_n ?_ | refine g_exit ?_ | refine g_skip ?_)
  refine g_hideR fun Q_ hQ_ => ?_
  refine o_move ?_
  refine o_move ?_
  refine o_call (OfM_spec (some ⟨b3, 0, none⟩) 2 2) rfl rfl ?_
  rintro _ _ ⟨b4, rfl, rfl⟩
  refine shutOfX b4 (some ⟨b3, 0, none⟩) 2 2 [m1, m2] ?_
  refine o_call (Diff14_spec s 5 2 ls (by decide) hlt 50 33 [.pointer (some ⟨b4, 0, none⟩)] [] [m1, m2] hok (show 2 ≤ 1000000 by decide) hmt (OfX b4 (some ⟨b3, 0, none⟩) 2 2 [m1, m2]) emp (OfX_iter b4 (some ⟨b3, 0, none⟩) 2 2 [m1, m2] rfl (by decide)) (fun _ => true) wakes14a_spec hu hd) rfl rfl ?_
  rintro _ _ ⟨S1, c1, S2, c2, rfl, rfl⟩
  refine o_move ?_
  refine o_extract rfl rfl ?_
  refine o_extract rfl rfl ?_
  refine o_assign ?_
  refine o_assign ?_
  refine g_end (G.imp (hQ_ .normal _) ?_)
  clear hQ_ Q_
  try refine g_then ?_
  refine openUp S1 [⟨nmA, [2, 1]⟩] fun mds h1 h2 => ?_
  obtain ⟨d, rfl⟩ : ∃ d, mds = [d] := by
    have e := congrArg List.length h1
    rw [List.length_map] at e
    exact List.length_eq_one_iff.1 e
  have hdp : d.pl = ⟨nmA, [2, 1]⟩ := by simpa using h1
  have hdz : d.r.zs = [2, 1] := congrArg MatP.tags hdp
  have hdl : d.r.len = 2 := by have := (h2 d.r (by simp)).1; rw [hdz] at this; exact this.symm
  refine G.bopen (ys := [d]) (f := oM) d [] (List.Perm.refl _) ?_
  repeat (first | refine g_endt ?_ | refine g_end ?_ | refine g_then ?_ | refine g_in_normal ?_ | refine g_then_ret ?_ | refine g_in_ret ?_ | refine g_then_exit ?_ | refine g_in_exit rfl ?_ | refine g_in_exit_ne (by decide) ?_ | refine g_seq ?_ | refine g_region ?_ | refine g_block ?_ | refine g_ret ?_ | refine g_return_n ?_ | refine g_exit ?_ | refine g_skip ?_)
  refine g_hideR fun Q_ hQ_ => ?_
  refine o_move ?_
  refine o_len rfl rfl ?_
  refine o_eqlT (t := true) rfl rfl rfl ?_
  refine o_move ?_
  first | (refine o_want rfl rfl rfl rfl rfl ?_; refine o_move ?_) | refine o_unwanted rfl rfl rfl rfl rfl ?_ | refine o_undef rfl rfl rfl ?_
  refine o_want rfl rfl rfl rfl rfl (o_indexR (ys := [d]) (i := 0) rfl rfl rfl Nat.one_pos rfl rfl ?_)
  refine o_want rfl rfl rfl rfl rfl (o_fieldR (ys := [d]) rfl Nat.one_pos ?_)
  refine o_want rfl rfl rfl rfl rfl (o_loadE1 (ys := [d]) (i := 0) (off := 1) (v := .slice d.r.a d.r.len d.r.cap) rfl rfl rfl ?_)
  first | (refine o_want rfl rfl rfl rfl rfl ?_; refine o_len rfl rfl ?_) | refine o_unwanted rfl rfl rfl rfl rfl ?_ | refine o_undef rfl rfl rfl ?_
  refine o_want rfl rfl rfl rfl rfl (o_eqlT (t := true) rfl rfl (by rw [hdl]; rfl) ?_)
  first | refine o_pick_t rfl rfl ?_ | refine o_pick_f rfl rfl ?_
  refine o_move ?_
  first | (refine o_want rfl rfl rfl rfl rfl ?_; refine o_move ?_) | refine o_unwanted rfl rfl rfl rfl rfl ?_ | refine o_undef rfl rfl rfl ?_
  refine o_want rfl rfl rfl rfl rfl (o_indexR (ys := [d]) (i := 0) rfl rfl rfl Nat.one_pos rfl rfl ?_)
  refine o_want rfl rfl rfl rfl rfl (o_fieldR (ys := [d]) rfl Nat.one_pos ?_)
  refine o_want rfl rfl rfl rfl rfl (o_loadE1 (ys := [d]) (i := 0) (off := 1) (v := .slice d.r.a d.r.len d.r.cap) rfl rfl rfl ?_)
  refine o_want rfl rfl rfl rfl rfl (o_indexR (ys := d.r.zs) (i := 0) rfl rfl rfl (by rw [hdz]; decide) (by rw [hdz, hdl]; rfl) rfl ?_)
  refine o_want rfl rfl rfl rfl rfl (o_loadE0 (ys := d.r.zs) (i := 0) (v := .int .i64 2) rfl (by rw [hdz]; rfl) rfl ?_)
  refine o_want rfl rfl rfl rfl rfl (o_eqlT (t := true) rfl rfl rfl ?_)
  first | refine o_pick_t rfl rfl ?_ | refine o_pick_f rfl rfl ?_
  refine o_move ?_
  first | (refine o_want rfl rfl rfl rfl rfl ?_; refine o_move ?_) | refine o_unwanted rfl rfl rfl rfl rfl ?_ | refine o_undef rfl rfl rfl ?_
  first | (refine o_want rfl rfl rfl rfl rfl ?_; refine o_len rfl rfl ?_) | refine o_unwanted rfl rfl rfl rfl rfl ?_ | refine o_undef rfl rfl rfl ?_
  refine o_want rfl rfl rfl rfl rfl (o_eqlT (t := true) rfl rfl rfl ?_)
  first | refine o_pick_t rfl rfl ?_ | refine o_pick_f rfl rfl ?_
  refine o_assign ?_
  refine g_end (G.imp (hQ_ .normal _) ?_)
  clear hQ_ Q_
  try refine g_then ?_
  repeat (first | refine g_endt ?_ | refine g_end ?_ | refine g_then ?_ | refine g_in_normal ?_ | refine g_then_ret ?_ | refine g_in_ret ?_ | refine g_then_exit ?_ | refine g_in_exit rfl ?_ | refine g_in_exit_ne (by decide) ?_ | refine g_seq ?_ | refine g_region ?_ | refine g_block ?_ | refine g_ret ?_ | refine g_return_n ?_ | refine g_exit ?_ | refine g_skip ?_)
  exact ret1 (K := []) rfl (resT (v := .bool true) rfl) ⟨rfl, rfl⟩
end Go.Proofs.Ytkglmhgehccmoaa
/- Whatever stands and stands no more, and a copy of it: the walks. -/
namespace Go.Proofs.Ytkglmhgehccmoaa
open Go Go.Sl
attribute [local irreducible] Exit.then Exit.inBlock Code.wpIn roundPost bodyPostM runL Ret Meets MeetsD Begin

theorem newRI {w0 : World} {A : SProp} {L M : List SProp} {Φ : World → Prop} (r : Nat) (room : Int) [tk : Take1 L (rI r room 1 none 0 0) M] (h : G w0 A (RefI r room 1 [] :: M) Φ) : G w0 A L Φ := by
  refine G.perm tk.perm ?_
  refine G.psl_nil (α := InstD) encID 5 ?_
  refine G.rowNil (α := Int) encI 1 0 ?_
  refine shutIl none [] [] rfl (fun _ h => nomatch h) (tk := (inferInstance : Take (prowsG encI 1 (List.replicate 0 (⟨none, 0, 0, []⟩ : RowG Int)) :: psl encID 5 none ([] : List InstD) :: rI r room 1 none 0 0 :: M) [psl encID 5 none ([] : List InstD), prowsG encI 1 (List.replicate 0 (⟨none, 0, 0, []⟩ : RowG Int))] _)) ?_
  exact shutRI r room 1 [] none 0 (n := 0) rfl (tk := (inferInstance : Take (IlP none [] :: rI r room 1 none 0 0 :: M) [rI r room 1 none 0 0, IlP none []] M)) h
theorem play14K_spec (s r : Nat) (room : Int) (k0 : Nat) {next : Int} {ls : List InstP} (h0 : InvI k0 (next, ls)) (hk0 : k0 ≤ 1000) (A : Option Addr) (n c : Nat) (ys : List ActD) (hl : ys.length = n) (hm : n ≤ 80) (hr : ∀ q ∈ ys, q.Ok) (hq20 : ∀ q ∈ ys, q.i.r.len ≤ 20 ∧ q.ns.len ≤ 20) {next' : Int} {ls' : List InstP} (hst : playI room (next, ls) ys = (next', ls')) :
    Ctr Try.prog 18 [.pointer (some ⟨s, 0, none⟩), .pointer (some ⟨r, 0, none⟩), .slice A n c] (StP s room next ls :: RefI r room next ls :: acK A ys) (fun v M => v = .bool true ∧ M = [StP s room next' ls', RefI r room next' ls']) :=
  play14_spec s r room k0 (next, ls) h0 hk0 A n c ys hl hm hr hq20 hst
end Go.Proofs.Ytkglmhgehccmoaa
/- The document's matches in order: put; is one among them. -/
namespace Go.Proofs.Ytkglmhgehccmoaa
open Go Go.Sl
attribute [local irreducible] Exit.then Exit.inBlock Code.wpIn roundPost bodyPostM runL Ret Meets MeetsD Begin

/-- Where one would stand, looked for from behind. -/
def PosM (l : List MatD) (e : MatD) (i : Nat) : Prop := i ≤ l.length ∧ (∀ (j : Nat) (y : MatD), i ≤ j → l[j]? = some y → 0 < y.cmp e) ∧ ∀ y, 0 < i → l[i - 1]? = some y → ¬ e.cmp y < 0
theorem PosM.find {l : List MatD} {e : MatD} {i : Nat} (hs : Srt MatD.cmp l) (h : PosM l e i) (hn : hasC MatD.cmp l e = false) : FindR MatD.cmp l e i false := by
  obtain ⟨h1, h2, h3⟩ := h
  refine ⟨h1, fun e => (by cases e), fun _ => ⟨fun j y hj hy => ?_, h2⟩⟩
  obtain ⟨z, hzz⟩ : ∃ z, l[i - 1]? = some z := ⟨_, List.getElem?_eq_getElem (by omega)⟩
  have h4 := h3 z (by omega) hzz
  have h5 : z.cmp e ≠ 0 := fun h0 => by
    have := List.any_eq_false.1 hn z (List.mem_of_getElem? hzz)
    exact this (by simpa using h0)
  have h6 := MatD.lin.swap e z
  by_cases e2 : j = i - 1
  · subst e2; rw [hzz] at hy; cases hy; omega
  · exact MatD.lin.trans y z e (hs j (i - 1) y z (by omega) hy hzz) (by omega)
set_option maxHeartbeats 1000000 in
theorem Put09_spec (K : Option Addr) (n c : Nat) (l : List MatD) (e : MatD) (he0 : ROk e.r) (hr : ∀ d ∈ l, ROk d.r) (hs : Srt MatD.cmp l) (hnh : hasC MatD.cmp l e = false) (hl : l.length = n) (hc : n ≤ c) (hm : n ≤ 100000) :
    Ctr Try.prog 53 [.slice K n c, e.val] [psl MatD.enc 2 K l, prowsG encI 1 (l.map MatD.r), psl encI 1 e.r.a e.r.zs]
    (fun v M => ∃ T d, (insC MatD.cmp l e).length ≤ d ∧ v = .slice T (insC MatD.cmp l e).length d ∧ M = [psl MatD.enc 2 T (insC MatD.cmp l e)]) := by
  refine spec_of Try.func53 rfl Try.ntmps53 rfl fun w0 F => ?_
  -- hide
  -- ponder/ponderref09.Put
  repeat (first | refine g_endt ?_ | refine g_end ?_ | refine g_then ?_ | refine g_in_normal ?_ | refine g_then_ret ?_ | refine g_in_ret ?_ | refine g_then_exit ?_ | refine g_in_exit rfl ?_ | refine g_in_exit_ne (by decide) ?_ | refine g_seq ?_ | refine g_region ?_ | refine g_block ?_ | refine g_ret ?_ | refine g_return_n ?_ | refine g_exit ?_ | refine g_skip ?_)
  refine g_hideR fun Q_ hQ_ => ?_
  refine o_boxc e.val.cells rfl rfl fun q => ?_
  refine o_assign ?_
  refine g_end (G.imp (hQ_ .normal _) ?_)
  clear hQ_ Q_
  try refine g_then ?_
  repeat (first | refine g_endt ?_ | refine g_end ?_ | refine g_then ?_ | refine g_in_normal ?_ | refine g_then_ret ?_ | refine g_in_ret ?_ | refine g_then_exit ?_ | refine g_in_exit rfl ?_ | refine g_in_exit_ne (by decide) ?_ | refine g_seq ?_ | refine g_region ?_ | refine g_block ?_ | refine g_ret ?_ | refine g_return_n ?_ | refine g_exit ?_ | refine g_skip ?_)
  refine g_hideR fun Q_ hQ_ => ?_
  refine o_move ?_
  refine o_len rfl rfl ?_
  refine o_assign ?_
  refine g_end (G.imp (hQ_ .normal _) ?_)
  clear hQ_ Q_
  try refine g_then ?_
  repeat (first | refine g_endt ?_ | refine g_end ?_ | refine g_then ?_ | refine g_in_normal ?_ | refine g_then_ret ?_ | refine g_in_ret ?_ | refine g_then_exit ?_ | refine g_in_exit rfl ?_ | refine g_in_exit_ne (by decide) ?_ | refine g_seq ?_ | refine g_block ?_ | refine g_ret ?_ | refine g_return_n ?_ | refine g_exit ?_ | refine g_skip ?_)
  refine g_cutb (σ := Nat) (ds' := []) (T := fun i => [(0, .slice K n c), (3, .pointer (some ⟨q, 0, none⟩)), (5, .int .i64 (i : Int))]) (H := fun _ => [psl MatD.enc 2 K l, cellsB q e.val.cells 52]) (ok := fun i => PosM l e i) ?_ ?_
  · refine g_loop (σ := {i : Nat // i ≤ n ∧ ∀ (j : Nat) (y : MatD), i ≤ j → l[j]? = some y → 0 < y.cmp e}) (S := fun i => [(0, .slice K n c), (3, .pointer (some ⟨q, 0, none⟩)), (5, .int .i64 (i.1 : Int))])
      (H := fun _ => [psl MatD.enc 2 K l, prowsG encI 1 (l.map MatD.r), psl encI 1 e.r.a e.r.zs, cellsB q e.val.cells 52]) (μ := fun i => i.1) (s0 := ⟨n, Nat.le_refl _, fun j y h hy => by rw [List.getElem?_eq_none (by omega)] at hy; cases hy⟩) (Sat.mem ⟨rfl, rfl, rfl, trivial⟩) ?_
    rintro ⟨i, hi, hup⟩ ρ'
    dsimp only at hi hup ⊢
    by_cases h : 0 < i
    · have hil : i - 1 < l.length := by omega
      obtain ⟨y, hy⟩ : ∃ y, l[i - 1]? = some y := ⟨_, List.getElem?_eq_getElem hil⟩
      have hym := List.mem_of_getElem? hy
      obtain ⟨b, hb⟩ : ∃ b, decide (e.pl.cmp y.pl < 0) = b := ⟨_, rfl⟩
      refine G.rowG (enc := encI) (sz := 1) (List.mem_map_of_mem (f := MatD.r) hym) ?_
      repeat (first | refine g_endt ?_ | refine g_end ?_ | refine g_then ?_ | refine g_in_normal ?_ | refine g_then_ret ?_ | refine g_in_ret ?_ | refine g_then_exit ?_ | refine g_in_exit rfl ?_ | refine g_in_exit_ne (by decide) ?_ | refine g_seq ?_ | refine g_region ?_ | refine g_block ?_ | refine g_ret ?_ | refine g_return_n ?_ | refine g_exit ?_ | refine g_skip ?_)
      refine g_hide fun Q_ hQ_ => ?_
      refine g_draw [9] [0,1,2,3,4,5,6,7,8,9,10] [psl MatD.enc 2 K l, cellsB q e.val.cells 52] mixed rfl ?_
      refine ob_q rfl rfl ⟨_, fun X Q h => o_move (g_end (h _ _ ⟨rfl, rfl⟩)), ?_⟩
      refine ob_q rfl rfl ⟨_, fun X Q h => o_gtrT (t := true) rfl rfl (decide_eq_true (by omega)) (g_end (h _ _ ⟨rfl, rfl⟩)), ?_⟩
      refine ob_q rfl rfl ⟨_, fun X Q h => o_move (g_end (h _ _ ⟨rfl, rfl⟩)), ?_⟩
      refine ob_q rfl rfl ⟨_, fun X Q h => o_want rfl rfl rfl rfl rfl <| o_loadN (v := e.val) rfl rfl rfl (g_end (h _ _ ⟨rfl, rfl⟩)), ?_⟩
      first | refine ob_q rfl rfl ⟨_, fun X Q h => o_want rfl rfl rfl rfl rfl <| o_move (g_end (h _ _ ⟨rfl, rfl⟩)), ?_⟩ | refine ob_q rfl rfl ⟨_, fun X Q h => o_unwanted rfl rfl rfl rfl rfl (g_end (h _ _ ⟨rfl, rfl⟩)), ?_⟩ | refine ob_q rfl rfl ⟨_, fun X Q h => o_undef rfl rfl rfl (g_end (h _ _ ⟨rfl, rfl⟩)), ?_⟩
      first | refine ob_q rfl rfl ⟨_, fun X Q h => o_want rfl rfl rfl rfl rfl <| o_move (g_end (h _ _ ⟨rfl, rfl⟩)), ?_⟩ | refine ob_q rfl rfl ⟨_, fun X Q h => o_unwanted rfl rfl rfl rfl rfl (g_end (h _ _ ⟨rfl, rfl⟩)), ?_⟩ | refine ob_q rfl rfl ⟨_, fun X Q h => o_undef rfl rfl rfl (g_end (h _ _ ⟨rfl, rfl⟩)), ?_⟩
      refine ob_q rfl rfl ⟨_, fun X Q h => o_want rfl rfl rfl rfl rfl <| o_sub (c := ((i - 1 : Nat) : Int)) rfl rfl (by omega) (by omega) (by omega) (g_end (h _ _ ⟨rfl, rfl⟩)), ?_⟩
      refine ob_q rfl rfl ⟨_, fun X Q h => o_want rfl rfl rfl rfl rfl <| o_indexR (ys := l) (i := i - 1) rfl rfl rfl hil hl rfl (g_end (h _ _ ⟨rfl, rfl⟩)), ?_⟩
      refine ob_q rfl rfl ⟨_, fun X Q h => o_want rfl rfl rfl rfl rfl <| o_loadE (ys := l) rfl rfl hy (g_end (h _ _ ⟨rfl, rfl⟩)), ?_⟩
      refine ob_l rfl rfl fun Qz hz => o_want rfl rfl rfl rfl rfl <| o_callp (Before_spec e y he0 (hr y hym) hb) rfl rfl ?_
      rintro _ _ ⟨rfl, rfl⟩
      refine g_end (hz _ _ ⟨_, ob_fin, ?_⟩)
      clear hz Qz
      first | refine ob_q rfl rfl ⟨_, fun X Q h => o_pick_t rfl rfl (g_end (h _ _ ⟨rfl, rfl⟩)), ?_⟩ | refine ob_q rfl rfl ⟨_, fun X Q h => o_pick_f rfl rfl (g_end (h _ _ ⟨rfl, rfl⟩)), ?_⟩
      refine ob_nil ?_
      refine G.imp (hQ_ .normal _) ?_
      clear hQ_ Q_
      try refine g_then ?_
      cases b with
      | true =>
        have hlt : e.cmp y < 0 := of_decide_eq_true hb
        first | refine g_seq (g_cond_t rfl (by first | rfl | (simp; done) | (simp; omega) | (simp; assumption)) ?_) | refine g_cond_t rfl (by first | rfl | (simp; done) | (simp; omega) | (simp; assumption)) ?_
        repeat (first | refine g_endt ?_ | refine g_end ?_ | refine g_then ?_ | refine g_in_normal ?_ | refine g_then_ret ?_ | refine g_in_ret ?_ | refine g_then_exit ?_ | refine g_in_exit rfl ?_ | refine g_in_exit_ne (by decide) ?_ | refine g_seq ?_ | refine g_region ?_ | refine g_block ?_ | refine g_ret ?_ | refine g_return_n ?_ | refine g_exit ?_ | refine g_skip ?_)
        refine g_hideR fun Q_ hQ_ => ?_
        refine o_move ?_
        refine o_sub (c := ((i - 1 : Nat) : Int)) rfl rfl (by omega) (by omega) (by omega) ?_
        refine o_assign ?_
        refine g_end (G.imp (hQ_ .normal _) ?_)
        clear hQ_ Q_
        try refine g_then ?_
        repeat (first | refine g_endt ?_ | refine g_end ?_ | refine g_then ?_ | refine g_in_normal ?_ | refine g_then_ret ?_ | refine g_in_ret ?_ | refine g_then_exit ?_ | refine g_in_exit rfl ?_ | refine g_in_exit_ne (by decide) ?_ | refine g_seq ?_ | refine g_region ?_ | refine g_block ?_ | refine g_ret ?_ | refine g_return_n ?_ | refine g_exit ?_ | refine g_skip ?_)
        have hn : ∀ (j : Nat) (z : MatD), i - 1 ≤ j → l[j]? = some z → 0 < z.cmp e := fun j z hj hz => by
          by_cases e2 : j = i - 1
          · subst e2; rw [hy] at hz; cases hz; have := MatD.lin.swap e y; omega
          · exact hup j z (by omega) hz
        exact g_meets (⟨i - 1, by omega, hn⟩) (by first | exact trivial | (dsimp only; omega)) (Sat.mem (by repeat (first | exact trivial | refine And.intro rfl ?_)))
      | false =>
        have hlt : ¬ e.cmp y < 0 := of_decide_eq_false hb
        first | refine g_seq (g_cond_f rfl (by first | rfl | (simp; done) | (simp; omega) | (simp; assumption)) ?_) | refine g_cond_f rfl (by first | rfl | (simp; done) | (simp; omega) | (simp; assumption)) ?_
        repeat (first | refine g_endt ?_ | refine g_end ?_ | refine g_then ?_ | refine g_in_normal ?_ | refine g_then_ret ?_ | refine g_in_ret ?_ | refine g_then_exit ?_ | refine g_in_exit rfl ?_ | refine g_in_exit_ne (by decide) ?_ | refine g_seq ?_ | refine g_region ?_ | refine g_block ?_ | refine g_ret ?_ | refine g_return_n ?_ | refine g_exit ?_ | refine g_skip ?_)
        exact g_meets i ⟨by omega, hup, fun z _ hz => by rw [hy] at hz; cases hz; exact hlt⟩ (Sat.mem ⟨rfl, rfl, rfl, trivial⟩)
    · have : i = 0 := by omega
      subst this
      repeat (first | refine g_endt ?_ | refine g_end ?_ | refine g_then ?_ | refine g_in_normal ?_ | refine g_then_ret ?_ | refine g_in_ret ?_ | refine g_then_exit ?_ | refine g_in_exit rfl ?_ | refine g_in_exit_ne (by decide) ?_ | refine g_seq ?_ | refine g_region ?_ | refine g_block ?_ | refine g_ret ?_ | refine g_return_n ?_ | refine g_exit ?_ | refine g_skip ?_)
      refine g_hide fun Q_ hQ_ => ?_
      refine g_draw [] [0,1,2,3,4,5,6,7,8,9,10] [psl MatD.enc 2 K l, cellsB q e.val.cells 52] mixed rfl ?_
      refine ob_q rfl rfl ⟨_, fun X Q h => o_move (g_end (h _ _ ⟨rfl, rfl⟩)), ?_⟩
      refine ob_q rfl rfl ⟨_, fun X Q h => o_gtrT (t := false) rfl rfl rfl (g_end (h _ _ ⟨rfl, rfl⟩)), ?_⟩
      refine ob_q rfl rfl ⟨_, fun X Q h => o_move (g_end (h _ _ ⟨rfl, rfl⟩)), ?_⟩
      first | refine ob_q rfl rfl ⟨_, fun X Q h => o_unwanted rfl rfl rfl rfl rfl (g_end (h _ _ ⟨rfl, rfl⟩)), ?_⟩ | refine ob_q rfl rfl ⟨_, fun X Q h => o_undef rfl rfl rfl (g_end (h _ _ ⟨rfl, rfl⟩)), ?_⟩
      first | refine ob_q rfl rfl ⟨_, fun X Q h => o_want rfl rfl rfl rfl rfl <| o_move (g_end (h _ _ ⟨rfl, rfl⟩)), ?_⟩ | refine ob_q rfl rfl ⟨_, fun X Q h => o_unwanted rfl rfl rfl rfl rfl (g_end (h _ _ ⟨rfl, rfl⟩)), ?_⟩ | refine ob_q rfl rfl ⟨_, fun X Q h => o_undef rfl rfl rfl (g_end (h _ _ ⟨rfl, rfl⟩)), ?_⟩
      first | refine ob_q rfl rfl ⟨_, fun X Q h => o_want rfl rfl rfl rfl rfl <| o_move (g_end (h _ _ ⟨rfl, rfl⟩)), ?_⟩ | refine ob_q rfl rfl ⟨_, fun X Q h => o_unwanted rfl rfl rfl rfl rfl (g_end (h _ _ ⟨rfl, rfl⟩)), ?_⟩ | refine ob_q rfl rfl ⟨_, fun X Q h => o_undef rfl rfl rfl (g_end (h _ _ ⟨rfl, rfl⟩)), ?_⟩
      first | refine ob_q rfl rfl ⟨_, fun X Q h => o_unwanted rfl rfl rfl rfl rfl (g_end (h _ _ ⟨rfl, rfl⟩)), ?_⟩ | refine ob_q rfl rfl ⟨_, fun X Q h => o_undef rfl rfl rfl (g_end (h _ _ ⟨rfl, rfl⟩)), ?_⟩
      first | refine ob_q rfl rfl ⟨_, fun X Q h => o_unwanted rfl rfl rfl rfl rfl (g_end (h _ _ ⟨rfl, rfl⟩)), ?_⟩ | refine ob_q rfl rfl ⟨_, fun X Q h => o_undef rfl rfl rfl (g_end (h _ _ ⟨rfl, rfl⟩)), ?_⟩
      first | refine ob_q rfl rfl ⟨_, fun X Q h => o_unwanted rfl rfl rfl rfl rfl (g_end (h _ _ ⟨rfl, rfl⟩)), ?_⟩ | refine ob_q rfl rfl ⟨_, fun X Q h => o_undef rfl rfl rfl (g_end (h _ _ ⟨rfl, rfl⟩)), ?_⟩
      first | refine ob_q rfl rfl ⟨_, fun X Q h => o_unwanted rfl rfl rfl rfl rfl (g_end (h _ _ ⟨rfl, rfl⟩)), ?_⟩ | refine ob_q rfl rfl ⟨_, fun X Q h => o_undef rfl rfl rfl (g_end (h _ _ ⟨rfl, rfl⟩)), ?_⟩
      first | refine ob_q rfl rfl ⟨_, fun X Q h => o_pick_t rfl rfl (g_end (h _ _ ⟨rfl, rfl⟩)), ?_⟩ | refine ob_q rfl rfl ⟨_, fun X Q h => o_pick_f rfl rfl (g_end (h _ _ ⟨rfl, rfl⟩)), ?_⟩
      refine ob_nil ?_
      refine G.imp (hQ_ .normal _) ?_
      clear hQ_ Q_
      try refine g_then ?_
      first | refine g_seq (g_cond_f rfl (by first | rfl | (simp; done) | (simp; omega) | (simp; assumption)) ?_) | refine g_cond_f rfl (by first | rfl | (simp; done) | (simp; omega) | (simp; assumption)) ?_
      repeat (first | refine g_endt ?_ | refine g_end ?_ | refine g_then ?_ | refine g_in_normal ?_ | refine g_then_ret ?_ | refine g_in_ret ?_ | refine g_then_exit ?_ | refine g_in_exit rfl ?_ | refine g_in_exit_ne (by decide) ?_ | refine g_seq ?_ | refine g_region ?_ | refine g_block ?_ | refine g_ret ?_ | refine g_return_n ?_ | refine g_exit ?_ | refine g_skip ?_)
      exact g_meets 0 ⟨by omega, hup, fun z h0 _ => absurd h0 (Nat.lt_irrefl 0)⟩ (Sat.mem ⟨rfl, rfl, rfl, trivial⟩)
  · intro i ρ' hpos
    have hf := hpos.find hs hnh
    have hi : i ≤ l.length := hpos.1
    have hti : (l.take i).length = i := by simp; omega
    have hdi : (l.drop i).length = n - i := by simp; omega
    have he := insC_of MatD.lin hs hf
    rw [cond_false] at he
    refine G.taken (S := K) (xs := l) (enc := MatD.enc) (sz := 2) i ?_
    refine G.nil_slice 52 MatD.enc 2 ?_
    repeat (first | refine g_endt ?_ | refine g_end ?_ | refine g_then ?_ | refine g_in_normal ?_ | refine g_then_ret ?_ | refine g_in_ret ?_ | refine g_then_exit ?_ | refine g_in_exit rfl ?_ | refine g_in_exit_ne (by decide) ?_ | refine g_seq ?_ | refine g_region ?_ | refine g_block ?_ | refine g_ret ?_ | refine g_return_n ?_ | refine g_exit ?_ | refine g_skip ?_)
    refine g_hideR fun Q_ hQ_ => ?_
    refine o_move ?_
    refine o_move ?_
    refine o_uptoP (k := i) rfl rfl rfl (by omega) ?_
    refine o_append0 (ys := l.take i) rfl rfl rfl rfl hti (by rw [hti]; simp [maxLen]; omega) (by rw [hti]; omega) fun S2 c2 => ?_
    refine o_assign ?_
    refine g_end (G.imp (hQ_ .normal _) ?_)
    clear hQ_ Q_
    try refine g_then ?_
    repeat (first | refine g_endt ?_ | refine g_end ?_ | refine g_then ?_ | refine g_in_normal ?_ | refine g_then_ret ?_ | refine g_in_ret ?_ | refine g_then_exit ?_ | refine g_in_exit rfl ?_ | refine g_in_exit_ne (by decide) ?_ | refine g_seq ?_ | refine g_region ?_ | refine g_block ?_ | refine g_ret ?_ | refine g_return_n ?_ | refine g_exit ?_ | refine g_skip ?_)
    refine g_hideR fun Q_ hQ_ => ?_
    refine o_move ?_
    refine o_loadN (v := e.val) rfl rfl rfl ?_
    refine o_litP (e := 52) MatD.enc [e] e.val.cells (fun w => by kernel_rfl) (by simp [MatD.enc]) (by simp [maxLen]) fun _ => ?_
    refine o_append (xs := l.take i) (ys := [e]) (by rw [hti]; rfl) rfl rfl rfl rfl (fun _ => .inr trivial) (by simp [maxLen]; omega) (by simp; omega) fun S3 c3 => ?_
    refine o_assign ?_
    refine g_end (G.imp (hQ_ .normal _) ?_)
    clear hQ_ Q_
    try refine g_then ?_
    refine G.dropped (S := K) (xs := l) (enc := MatD.enc) (sz := 2) c i (by omega) ?_
    repeat (first | refine g_endt ?_ | refine g_end ?_ | refine g_then ?_ | refine g_in_normal ?_ | refine g_then_ret ?_ | refine g_in_ret ?_ | refine g_then_exit ?_ | refine g_in_exit rfl ?_ | refine g_in_exit_ne (by decide) ?_ | refine g_seq ?_ | refine g_region ?_ | refine g_block ?_ | refine g_ret ?_ | refine g_return_n ?_ | refine g_exit ?_ | refine g_skip ?_)
    refine g_hideR fun Q_ hQ_ => ?_
    refine o_move ?_
    refine o_move ?_
    refine o_move ?_
    refine o_fromP (k := i) rfl rfl rfl (by omega) ?_
    refine o_append (xs := l.take i ++ [e]) (ys := l.drop i) (by simp only [List.length_append]; rfl) rfl rfl rfl hdi (fun _ => .inr trivial) (by simp [maxLen]; omega) (by simp; omega) fun S4 c4 => ?_
    refine o_assign ?_
    refine g_end (G.imp (hQ_ .normal _) ?_)
    clear hQ_ Q_
    try refine g_then ?_
    rw [show l.take i ++ [e] ++ l.drop i = insC MatD.cmp l e by rw [← he]; simp]
    refine G.bring [osl 52 MatD.enc 2 S4 c4 (insC MatD.cmp l e)] ?_
    refine G.frzc fun hroom => ?_
    repeat (first | refine g_endt ?_ | refine g_end ?_ | refine g_then ?_ | refine g_in_normal ?_ | refine g_then_ret ?_ | refine g_in_ret ?_ | refine g_then_exit ?_ | refine g_in_exit rfl ?_ | refine g_in_exit_ne (by decide) ?_ | refine g_seq ?_ | refine g_region ?_ | refine g_block ?_ | refine g_ret ?_ | refine g_return_n ?_ | refine g_exit ?_ | refine g_skip ?_)
    exact ret1 (K := [psl MatD.enc 2 S4 (insC MatD.cmp l e)]) rfl (resT (v := .slice S4 ((l.take i ++ [e]).length + (l.drop i).length) c4) rfl) ⟨S4, c4, hroom, by rw [← he]; simp only [List.length_append, List.length_cons, List.length_nil, hti, hdi]; congr 1; omega, rfl⟩
theorem any_at {α : Type} {l : List α} {i : Nat} {x : α} {p : α → Bool} (h : l[i]? = some x) : (l.take (i + 1)).any p = ((l.take i).any p || p x) := by
  rw [List.take_add_one, h, List.any_append]; simp
set_option maxHeartbeats 1000000 in
theorem among_spec (K : Option Addr) (n c : Nat) (l : List MatD) (e : MatD) (he0 : ROk e.r) (hr : ∀ d ∈ l, ROk d.r) (hl : l.length = n) (hm : n ≤ 100000) {v0 : Bool} (hv : hasC MatP.cmp (l.map MatD.pl) e.pl = v0) :
    Ctr Try.prog 52 [.slice K n c, e.val] [psl MatD.enc 2 K l, prowsG encI 1 (l.map MatD.r), psl encI 1 e.r.a e.r.zs] (fun v M => v = .bool v0 ∧ M = []) := by
  refine spec_of Try.func52 rfl Try.ntmps52 rfl fun w0 F => ?_
  -- hide
  -- ponder/ponderref10.among
  rw [← hasC_map cmp_pl] at hv
  unfold hasC at hv
  repeat (first | refine g_endt ?_ | refine g_end ?_ | refine g_then ?_ | refine g_in_normal ?_ | refine g_then_ret ?_ | refine g_in_ret ?_ | refine g_then_exit ?_ | refine g_in_exit rfl ?_ | refine g_in_exit_ne (by decide) ?_ | refine g_seq ?_ | refine g_region ?_ | refine g_block ?_ | refine g_ret ?_ | refine g_return_n ?_ | refine g_exit ?_ | refine g_skip ?_)
  refine g_hideR fun Q_ hQ_ => ?_
  refine o_boxc e.val.cells rfl rfl fun q => ?_
  refine o_assign ?_
  refine g_end (G.imp (hQ_ .normal _) ?_)
  clear hQ_ Q_
  try refine g_then ?_
  repeat (first | refine g_endt ?_ | refine g_end ?_ | refine g_then ?_ | refine g_in_normal ?_ | refine g_then_ret ?_ | refine g_in_ret ?_ | refine g_then_exit ?_ | refine g_in_exit rfl ?_ | refine g_in_exit_ne (by decide) ?_ | refine g_seq ?_ | refine g_region ?_ | refine g_block ?_ | refine g_ret ?_ | refine g_return_n ?_ | refine g_exit ?_ | refine g_skip ?_)
  refine g_hideR fun Q_ hQ_ => ?_
  refine o_assign ?_
  refine g_end (G.imp (hQ_ .normal _) ?_)
  clear hQ_ Q_
  try refine g_then ?_
  repeat (first | refine g_endt ?_ | refine g_end ?_ | refine g_then ?_ | refine g_in_normal ?_ | refine g_then_ret ?_ | refine g_in_ret ?_ | refine g_then_exit ?_ | refine g_in_exit rfl ?_ | refine g_in_exit_ne (by decide) ?_ | refine g_seq ?_ | refine g_region ?_ | refine g_block ?_ | refine g_ret ?_ | refine g_return_n ?_ | refine g_exit ?_ | refine g_skip ?_)
  refine g_loop (σ := {i : Nat // i ≤ n ∧ (l.take i).any (fun y => decide (y.cmp e = 0)) = false}) (S := fun i => [(0, .slice K n c), (3, .pointer (some ⟨q, 0, none⟩)), (5, .int .i64 (i.1 : Int))])
    (H := fun _ => [psl MatD.enc 2 K l, prowsG encI 1 (l.map MatD.r), psl encI 1 e.r.a e.r.zs, cellsB q e.val.cells 52]) (μ := fun i => n - i.1) (s0 := ⟨0, Nat.zero_le _, rfl⟩) (Sat.mem ⟨rfl, rfl, rfl, trivial⟩) ?_
  rintro ⟨i, hi, hno⟩ ρ'
  dsimp only at hi hno ⊢
  by_cases h : i < n
  · skip
    repeat (first | refine g_endt ?_ | refine g_end ?_ | refine g_then ?_ | refine g_in_normal ?_ | refine g_then_ret ?_ | refine g_in_ret ?_ | refine g_then_exit ?_ | refine g_in_exit rfl ?_ | refine g_in_exit_ne (by decide) ?_ | refine g_seq ?_ | refine g_region ?_ | refine g_block ?_ | refine g_ret ?_ | refine g_return_n ?_ | refine g_exit ?_ | refine g_skip ?_)
    refine g_hideR fun Q_ hQ_ => ?_
    refine o_move ?_
    refine o_move ?_
    refine o_len rfl rfl ?_
    refine o_lssT (t := true) rfl rfl (decide_eq_true (by omega)) ?_
    refine g_end (G.imp (hQ_ .normal _) ?_)
    clear hQ_ Q_
    try refine g_then ?_
    first | refine g_seq (g_cond_t rfl (by first | rfl | (simp; done) | (simp; omega) | (simp; assumption)) ?_) | refine g_cond_t rfl (by first | rfl | (simp; done) | (simp; omega) | (simp; assumption)) ?_
    repeat (first | refine g_endt ?_ | refine g_end ?_ | refine g_then ?_ | refine g_in_normal ?_ | refine g_then_ret ?_ | refine g_in_ret ?_ | refine g_then_exit ?_ | refine g_in_exit rfl ?_ | refine g_in_exit_ne (by decide) ?_ | refine g_seq ?_ | refine g_region ?_ | refine g_block ?_ | refine g_ret ?_ | refine g_return_n ?_ | refine g_exit ?_ | refine g_skip ?_)
    obtain ⟨y, hy⟩ : ∃ y, l[i]? = some y := ⟨_, List.getElem?_eq_getElem (by omega)⟩
    have hym := List.mem_of_getElem? hy
    obtain ⟨b, hb⟩ : ∃ b, decide (y.pl.cmp e.pl = 0) = b := ⟨_, rfl⟩
    refine G.rowG (enc := encI) (sz := 1) (List.mem_map_of_mem (f := MatD.r) hym) ?_
    repeat (first | refine g_endt ?_ | refine g_end ?_ | refine g_then ?_ | refine g_in_normal ?_ | refine g_then_ret ?_ | refine g_in_ret ?_ | refine g_then_exit ?_ | refine g_in_exit rfl ?_ | refine g_in_exit_ne (by decide) ?_ | refine g_seq ?_ | refine g_region ?_ | refine g_block ?_ | refine g_ret ?_ | refine g_return_n ?_ | refine g_exit ?_ | refine g_skip ?_)
    refine g_hide fun Q_ hQ_ => ?_
    refine g_draw [5] [0,1,2,3,4,5] [psl MatD.enc 2 K l, cellsB q e.val.cells 52] mixed rfl ?_
    refine ob_q rfl rfl ⟨_, fun X Q h => o_move (g_end (h _ _ ⟨rfl, rfl⟩)), ?_⟩
    refine ob_q rfl rfl ⟨_, fun X Q h => o_move (g_end (h _ _ ⟨rfl, rfl⟩)), ?_⟩
    refine ob_q rfl rfl ⟨_, fun X Q h => o_indexR (ys := l) (i := i) rfl rfl rfl (by omega) hl rfl (g_end (h _ _ ⟨rfl, rfl⟩)), ?_⟩
    refine ob_q rfl rfl ⟨_, fun X Q h => o_loadE (ys := l) rfl rfl hy (g_end (h _ _ ⟨rfl, rfl⟩)), ?_⟩
    refine ob_q rfl rfl ⟨_, fun X Q h => o_loadN (v := e.val) rfl rfl rfl (g_end (h _ _ ⟨rfl, rfl⟩)), ?_⟩
    refine ob_l rfl rfl fun Qz hz => o_callp (Same_spec y e (hr y hym) he0 hb) rfl rfl ?_
    rintro _ _ ⟨rfl, rfl⟩
    refine g_end (hz _ _ ⟨_, ob_fin, ?_⟩)
    clear hz Qz
    refine ob_nil ?_
    refine G.imp (hQ_ .normal _) ?_
    clear hQ_ Q_
    try refine g_then ?_
    cases b with
    | true =>
      have hv1 : v0 = true := by rw [← hv]; exact List.any_eq_true.2 ⟨y, hym, hb⟩
      subst hv1
      first | refine g_seq (g_cond_t rfl (by first | rfl | (simp; done) | (simp; omega) | (simp; assumption)) ?_) | refine g_cond_t rfl (by first | rfl | (simp; done) | (simp; omega) | (simp; assumption)) ?_
      repeat (first | refine g_endt ?_ | refine g_end ?_ | refine g_then ?_ | refine g_in_normal ?_ | refine g_then_ret ?_ | refine g_in_ret ?_ | refine g_then_exit ?_ | refine g_in_exit rfl ?_ | refine g_in_exit_ne (by decide) ?_ | refine g_seq ?_ | refine g_region ?_ | refine g_block ?_ | refine g_ret ?_ | refine g_return_n ?_ | refine g_exit ?_ | refine g_skip ?_)
      refine g_hideR fun Q_ hQ_ => ?_
      refine o_assign ?_
      refine g_end (G.imp (hQ_ .normal _) ?_)
      clear hQ_ Q_
      try refine g_then ?_
      repeat (first | refine g_endt ?_ | refine g_end ?_ | refine g_then ?_ | refine g_in_normal ?_ | refine g_then_ret ?_ | refine g_in_ret ?_ | refine g_then_exit ?_ | refine g_in_exit rfl ?_ | refine g_in_exit_ne (by decide) ?_ | refine g_seq ?_ | refine g_region ?_ | refine g_block ?_ | refine g_ret ?_ | refine g_return_n ?_ | refine g_exit ?_ | refine g_skip ?_)
      exact ret1 (K := []) rfl (resT (v := .bool true) rfl) ⟨rfl, rfl⟩
    | false =>
      first | refine g_seq (g_cond_f rfl (by first | rfl | (simp; done) | (simp; omega) | (simp; assumption)) ?_) | refine g_cond_f rfl (by first | rfl | (simp; done) | (simp; omega) | (simp; assumption)) ?_
      repeat (first | refine g_endt ?_ | refine g_end ?_ | refine g_then ?_ | refine g_in_normal ?_ | refine g_then_ret ?_ | refine g_in_ret ?_ | refine g_then_exit ?_ | refine g_in_exit rfl ?_ | refine g_in_exit_ne (by decide) ?_ | refine g_seq ?_ | refine g_region ?_ | refine g_block ?_ | refine g_ret ?_ | refine g_return_n ?_ | refine g_exit ?_ | refine g_skip ?_)
      repeat (first | refine g_endt ?_ | refine g_end ?_ | refine g_then ?_ | refine g_in_normal ?_ | refine g_then_ret ?_ | refine g_in_ret ?_ | refine g_then_exit ?_ | refine g_in_exit rfl ?_ | refine g_in_exit_ne (by decide) ?_ | refine g_seq ?_ | refine g_region ?_ | refine g_block ?_ | refine g_ret ?_ | refine g_return_n ?_ | refine g_exit ?_ | refine g_skip ?_)
      refine g_hideR fun Q_ hQ_ => ?_
      refine o_move ?_
      refine o_add (c := ((i + 1 : Nat) : Int)) rfl rfl (by omega) (by omega) (by omega) ?_
      refine o_assign ?_
      refine g_end (G.imp (hQ_ .normal _) ?_)
      clear hQ_ Q_
      try refine g_then ?_
      repeat (first | refine g_endt ?_ | refine g_end ?_ | refine g_then ?_ | refine g_in_normal ?_ | refine g_then_ret ?_ | refine g_in_ret ?_ | refine g_then_exit ?_ | refine g_in_exit rfl ?_ | refine g_in_exit_ne (by decide) ?_ | refine g_seq ?_ | refine g_region ?_ | refine g_block ?_ | refine g_ret ?_ | refine g_return_n ?_ | refine g_exit ?_ | refine g_skip ?_)
      exact g_meets ⟨i + 1, h, by rw [any_at hy, hno]; exact hb⟩ (by show n - (i + 1) < n - i; omega) (Sat.mem ⟨rfl, rfl, rfl, trivial⟩)
  · skip
    repeat (first | refine g_endt ?_ | refine g_end ?_ | refine g_then ?_ | refine g_in_normal ?_ | refine g_then_ret ?_ | refine g_in_ret ?_ | refine g_then_exit ?_ | refine g_in_exit rfl ?_ | refine g_in_exit_ne (by decide) ?_ | refine g_seq ?_ | refine g_region ?_ | refine g_block ?_ | refine g_ret ?_ | refine g_return_n ?_ | refine g_exit ?_ | refine g_skip ?_)
    refine g_hideR fun Q_ hQ_ => ?_
    refine o_move ?_
    refine o_move ?_
    refine o_len rfl rfl ?_
    refine o_lssT (t := false) rfl rfl (decide_eq_false (by omega)) ?_
    refine g_end (G.imp (hQ_ .normal _) ?_)
    clear hQ_ Q_
    try refine g_then ?_
    first | refine g_seq (g_cond_f rfl (by first | rfl | (simp; done) | (simp; omega) | (simp; assumption)) ?_) | refine g_cond_f rfl (by first | rfl | (simp; done) | (simp; omega) | (simp; assumption)) ?_
    repeat (first | refine g_endt ?_ | refine g_end ?_ | refine g_then ?_ | refine g_in_normal ?_ | refine g_then_ret ?_ | refine g_in_ret ?_ | refine g_then_exit ?_ | refine g_in_exit rfl ?_ | refine g_in_exit_ne (by decide) ?_ | refine g_seq ?_ | refine g_region ?_ | refine g_block ?_ | refine g_ret ?_ | refine g_return_n ?_ | refine g_exit ?_ | refine g_skip ?_)
    have hv1 : v0 = false := by rw [← hv]; rw [List.take_of_length_le (by omega)] at hno; exact hno
    subst hv1
    repeat (first | refine g_endt ?_ | refine g_end ?_ | refine g_then ?_ | refine g_in_normal ?_ | refine g_then_ret ?_ | refine g_in_ret ?_ | refine g_then_exit ?_ | refine g_in_exit rfl ?_ | refine g_in_exit_ne (by decide) ?_ | refine g_seq ?_ | refine g_region ?_ | refine g_block ?_ | refine g_ret ?_ | refine g_return_n ?_ | refine g_exit ?_ | refine g_skip ?_)
    refine g_hideR fun Q_ hQ_ => ?_
    refine o_assign ?_
    refine g_end (G.imp (hQ_ .normal _) ?_)
    clear hQ_ Q_
    try refine g_then ?_
    repeat (first | refine g_endt ?_ | refine g_end ?_ | refine g_then ?_ | refine g_in_normal ?_ | refine g_then_ret ?_ | refine g_in_ret ?_ | refine g_then_exit ?_ | refine g_in_exit rfl ?_ | refine g_in_exit_ne (by decide) ?_ | refine g_seq ?_ | refine g_region ?_ | refine g_block ?_ | refine g_ret ?_ | refine g_return_n ?_ | refine g_exit ?_ | refine g_skip ?_)
    exact ret1 (K := []) rfl (resT (v := .bool false) rfl) ⟨rfl, rfl⟩
end Go.Proofs.Ytkglmhgehccmoaa
