/- An ordered set's functions, for one type of members: at a place, how many. -/
import Derived.Test.YtlognaddmbolgaaESI5
namespace Go.Proofs.Ytlognaddmbolgaa
open Go Go.Sl
attribute [local irreducible] Code.wpIn roundPost bodyPostM runL Ret Meets Begin

theorem LenSI_spec (p : Nat) (ys : List PgSI) : Ctr Try.prog 75 [.pointer (some ⟨p, 0, none⟩)] [SetASI p ys] (fun v M => v = .int .i64 (ys.length : Int) ∧ M = [SetASI p ys]) := by
  refine spec_of Try.func75 rfl Try.ntmps75 rfl fun w0 F => ?_
  repeat (first | refine g_endt ?_ | refine g_end ?_ | refine g_then ?_ | refine g_in_normal ?_ | refine g_then_ret ?_ | refine g_in_ret ?_ | refine g_then_exit ?_ | refine g_in_exit rfl ?_ | refine g_in_exit_ne (by decide) ?_ | refine g_seq ?_ | refine g_region ?_ | refine g_block ?_ | refine g_ret ?_ | refine g_return_n ?_ | refine g_exit ?_ | refine g_skip ?_)
  refine o_assign ?_
  first | refine g_endt ?_ | refine g_end ?_
  repeat (first | refine g_endt ?_ | refine g_end ?_ | refine g_then ?_ | refine g_in_normal ?_ | refine g_then_ret ?_ | refine g_in_ret ?_ | refine g_then_exit ?_ | refine g_in_exit rfl ?_ | refine g_in_exit_ne (by decide) ?_ | refine g_seq ?_ | refine g_region ?_ | refine g_block ?_ | refine g_ret ?_ | refine g_return_n ?_ | refine g_exit ?_ | refine g_skip ?_)
  refine o_move ?_
  refine o_peql rfl ?_
  first | refine g_endt ?_ | refine g_end ?_
  first | refine g_seq (g_cond_f rfl (rfl) ?_) | refine g_cond_f rfl (rfl) ?_
  repeat (first | refine g_endt ?_ | refine g_end ?_ | refine g_then ?_ | refine g_in_normal ?_ | refine g_then_ret ?_ | refine g_in_ret ?_ | refine g_then_exit ?_ | refine g_in_exit rfl ?_ | refine g_in_exit_ne (by decide) ?_ | refine g_seq ?_ | refine g_region ?_ | refine g_block ?_ | refine g_ret ?_ | refine g_return_n ?_ | refine g_exit ?_ | refine g_skip ?_)
  refine openSI p ys fun S c b => ?_
  refine o_move ?_
  refine o_nil rfl ?_
  refine o_field rfl ?_
  refine o_load1 (v := .slice S ys.length c) rfl rfl ?_
  refine o_len rfl rfl ?_
  refine o_assign ?_
  refine g_endt ?_
  refine shutSI p ys S c b rfl ?_
  repeat (first | refine g_endt ?_ | refine g_end ?_ | refine g_then ?_ | refine g_in_normal ?_ | refine g_then_ret ?_ | refine g_in_ret ?_ | refine g_then_exit ?_ | refine g_in_exit rfl ?_ | refine g_in_exit_ne (by decide) ?_ | refine g_seq ?_ | refine g_region ?_ | refine g_block ?_ | refine g_ret ?_ | refine g_return_n ?_ | refine g_exit ?_ | refine g_skip ?_)
  exact ret1 rfl (resT rfl) ⟨rfl, rfl⟩
theorem AtSI_spec (p i : Nat) (ys : List PgSI) : Ctr Try.prog 74 [.pointer (some ⟨p, 0, none⟩), .int .i64 (i : Int)] [SetASI p ys]
    (fun v M => v = .tuple #[(ys[i]?.getD PgSI.zero).val, .bool (decide (i < ys.length))] ∧ M = [SetASI p ys]) := by
  refine spec_of Try.func74 rfl Try.ntmps74 rfl fun w0 F => ?_
  repeat (first | refine g_endt ?_ | refine g_end ?_ | refine g_then ?_ | refine g_in_normal ?_ | refine g_then_ret ?_ | refine g_in_ret ?_ | refine g_then_exit ?_ | refine g_in_exit rfl ?_ | refine g_in_exit_ne (by decide) ?_ | refine g_seq ?_ | refine g_region ?_ | refine g_block ?_ | refine g_ret ?_ | refine g_return_n ?_ | refine g_exit ?_ | refine g_skip ?_)
  refine o_alloc fun r => ?_
  refine o_assign ?_
  refine g_endt ?_
  repeat (first | refine g_endt ?_ | refine g_end ?_ | refine g_then ?_ | refine g_in_normal ?_ | refine g_then_ret ?_ | refine g_in_ret ?_ | refine g_then_exit ?_ | refine g_in_exit rfl ?_ | refine g_in_exit_ne (by decide) ?_ | refine g_seq ?_ | refine g_region ?_ | refine g_block ?_ | refine g_ret ?_ | refine g_return_n ?_ | refine g_exit ?_ | refine g_skip ?_)
  refine o_alloc fun z => ?_
  refine g_endt ?_
  repeat (first | refine g_endt ?_ | refine g_end ?_ | refine g_then ?_ | refine g_in_normal ?_ | refine g_then_ret ?_ | refine g_in_ret ?_ | refine g_then_exit ?_ | refine g_in_exit rfl ?_ | refine g_in_exit_ne (by decide) ?_ | refine g_seq ?_ | refine g_region ?_ | refine g_block ?_ | refine g_ret ?_ | refine g_return_n ?_ | refine g_exit ?_ | refine g_skip ?_)
  refine o_move ?_
  refine o_peql rfl ?_
  refine o_move ?_
  refine o_want rfl rfl rfl rfl rfl (o_move ?_)
  refine o_want rfl rfl rfl rfl rfl (o_lss rfl rfl ?_)
  rw [show decide ((i : Int) < 0) = false from decide_eq_false (by omega)]
  refine o_pick_f rfl rfl ?_
  refine o_move ?_
  refine openSI p ys fun S c b => ?_
  refine o_want rfl rfl rfl rfl rfl (o_move ?_)
  refine o_want rfl rfl rfl rfl rfl (o_move ?_)
  refine o_want rfl rfl rfl rfl rfl (o_nil rfl ?_)
  refine o_want rfl rfl rfl rfl rfl (o_field rfl ?_)
  refine o_want rfl rfl rfl rfl rfl (o_load1 (v := .slice S ys.length c) rfl rfl ?_)
  refine o_want rfl rfl rfl rfl rfl (o_len rfl rfl ?_)
  refine o_want rfl rfl rfl rfl rfl (o_geq rfl rfl ?_)
  refine o_pick_f rfl rfl ?_
  refine g_endt ?_
  by_cases h : i < ys.length
  · first | refine g_seq (g_cond_f rfl (by simp; omega) ?_) | refine g_cond_f rfl (by simp; omega) ?_
    obtain ⟨y, hy⟩ : ∃ y, ys[i]? = some y := ⟨_, List.getElem?_eq_getElem h⟩
    repeat (first | refine g_endt ?_ | refine g_end ?_ | refine g_then ?_ | refine g_in_normal ?_ | refine g_then_ret ?_ | refine g_in_ret ?_ | refine g_then_exit ?_ | refine g_in_exit rfl ?_ | refine g_in_exit_ne (by decide) ?_ | refine g_seq ?_ | refine g_region ?_ | refine g_block ?_ | refine g_ret ?_ | refine g_return_n ?_ | refine g_exit ?_ | refine g_skip ?_)
    refine o_move ?_
    refine o_nil rfl ?_
    refine o_field rfl ?_
    refine o_load1 (v := .slice S ys.length c) rfl rfl ?_
    refine o_move ?_
    refine o_indexR (ys := ys) (i := i) rfl rfl rfl h rfl rfl ?_
    refine o_loadE (ys := ys) rfl rfl hy ?_
    refine o_store (v := y.val) rfl rfl rfl rfl rfl ?_
    refine o_assign ?_
    refine g_endt ?_
    refine G.norm r y.val.cells rfl ?_
    refine shutSI p ys S c b rfl ?_
    repeat (first | refine g_endt ?_ | refine g_end ?_ | refine g_then ?_ | refine g_in_normal ?_ | refine g_then_ret ?_ | refine g_in_ret ?_ | refine g_then_exit ?_ | refine g_in_exit rfl ?_ | refine g_in_exit_ne (by decide) ?_ | refine g_seq ?_ | refine g_region ?_ | refine g_block ?_ | refine g_ret ?_ | refine g_return_n ?_ | refine g_exit ?_ | refine g_skip ?_)
    exact ret2 (K := [SetASI p ys]) rfl (resCN (v := y.val) rfl rfl rfl) (resT (v := .bool true) rfl) ⟨by rw [hy, decide_eq_true h]; rfl, rfl⟩
  · first | refine g_seq (g_cond_t rfl (by simp; omega) ?_) | refine g_cond_t rfl (by simp; omega) ?_
    repeat (first | refine g_endt ?_ | refine g_end ?_ | refine g_then ?_ | refine g_in_normal ?_ | refine g_then_ret ?_ | refine g_in_ret ?_ | refine g_then_exit ?_ | refine g_in_exit rfl ?_ | refine g_in_exit_ne (by decide) ?_ | refine g_seq ?_ | refine g_region ?_ | refine g_block ?_ | refine g_ret ?_ | refine g_return_n ?_ | refine g_exit ?_ | refine g_skip ?_)
    refine o_loadN (v := PgSI.zero.val) rfl rfl rfl ?_
    refine o_store (v := PgSI.zero.val) rfl rfl rfl rfl rfl ?_
    refine o_assign ?_
    refine g_endt ?_
    refine G.norm r PgSI.zero.val.cells rfl ?_
    refine shutSI p ys S c b rfl ?_
    repeat (first | refine g_endt ?_ | refine g_end ?_ | refine g_then ?_ | refine g_in_normal ?_ | refine g_then_ret ?_ | refine g_in_ret ?_ | refine g_then_exit ?_ | refine g_in_exit rfl ?_ | refine g_in_exit_ne (by decide) ?_ | refine g_seq ?_ | refine g_region ?_ | refine g_block ?_ | refine g_ret ?_ | refine g_return_n ?_ | refine g_exit ?_ | refine g_skip ?_)
    exact ret2 (K := [SetASI p ys]) rfl (resCN (v := PgSI.zero.val) rfl rfl rfl) (resT (v := .bool false) rfl) ⟨by rw [List.getElem?_eq_none (by omega), decide_eq_false h]; rfl, rfl⟩
end Go.Proofs.Ytlognaddmbolgaa
