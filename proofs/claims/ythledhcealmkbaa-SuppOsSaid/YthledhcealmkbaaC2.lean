/- The law on support, walked. -/
import Derived.Test.YthledhcealmkbaaB3
import Derived.Test.YthledhcealmkbaaB5
namespace Go.Proofs.Ythledhcealmkbaa
open Go Go.Sl
attribute [local irreducible] Code.wpIn roundPost bodyPostM runL Ret Meets Begin

theorem beqB (a : Bool) : (a == a) = true := by cases a <;> rfl
theorem SuppOs_spec (A : Option Addr) (la ca : Nat) (xs : List ElemD) (hx : xs.length = la) (ha : la ≤ 9223372036854775807) (B : Option Addr) (lb cb : Nat) (ns : List Int) (hn : ns.length = lb) (hb : lb ≤ 9223372036854775807) :
    Ctr Try.prog 4 [.slice A la ca, .slice B lb cb] [psl encE 12 A xs, psl encI 1 B ns] (fun v M => v = .bool true ∧ M = []) := by
  refine spec_of Try.func4 rfl Try.ntmps4 rfl fun w0 F => ?_
  repeat (first | refine g_endt ?_ | refine g_end ?_ | refine g_then ?_ | refine g_in_normal ?_ | refine g_then_ret ?_ | refine g_in_ret ?_ | refine g_then_exit ?_ | refine g_in_exit rfl ?_ | refine g_in_exit_ne (by decide) ?_ | refine g_seq ?_ | refine g_region ?_ | refine g_block ?_ | refine g_ret ?_ | refine g_return_n ?_ | refine g_exit ?_ | refine g_skip ?_)
  refine o_assign ?_
  first | refine g_endt ?_ | refine g_end ?_
  repeat (first | refine g_endt ?_ | refine g_end ?_ | refine g_then ?_ | refine g_in_normal ?_ | refine g_then_ret ?_ | refine g_in_ret ?_ | refine g_then_exit ?_ | refine g_in_exit rfl ?_ | refine g_in_exit_ne (by decide) ?_ | refine g_seq ?_ | refine g_region ?_ | refine g_block ?_ | refine g_ret ?_ | refine g_return_n ?_ | refine g_exit ?_ | refine g_skip ?_)
  refine o_move ?_
  refine o_len rfl rfl ?_
  refine o_gtr rfl rfl ?_
  by_cases h1 : 60 < la
  · rw [show decide ((la : Int) > 60) = true from decide_eq_true (by omega)]
    refine o_move ?_
    refine o_unwanted rfl rfl rfl rfl rfl ?_
    refine o_unwanted rfl rfl rfl rfl rfl ?_
    refine o_unwanted rfl rfl rfl rfl rfl ?_
    refine o_pick_t rfl rfl ?_
    refine g_endt ?_
    first | refine g_seq (g_cond_t rfl (rfl) ?_) | refine g_cond_t rfl (rfl) ?_
    repeat (first | refine g_endt ?_ | refine g_end ?_ | refine g_then ?_ | refine g_in_normal ?_ | refine g_then_ret ?_ | refine g_in_ret ?_ | refine g_then_exit ?_ | refine g_in_exit rfl ?_ | refine g_in_exit_ne (by decide) ?_ | refine g_seq ?_ | refine g_region ?_ | refine g_block ?_ | refine g_ret ?_ | refine g_return_n ?_ | refine g_exit ?_ | refine g_skip ?_)
    refine o_call wakes_spec rfl rfl ?_
    rintro _ _ ⟨rfl, rfl⟩
    refine o_assign ?_
    first | refine g_endt ?_ | refine g_end ?_
    repeat (first | refine g_endt ?_ | refine g_end ?_ | refine g_then ?_ | refine g_in_normal ?_ | refine g_then_ret ?_ | refine g_in_ret ?_ | refine g_then_exit ?_ | refine g_in_exit rfl ?_ | refine g_in_exit_ne (by decide) ?_ | refine g_seq ?_ | refine g_region ?_ | refine g_block ?_ | refine g_ret ?_ | refine g_return_n ?_ | refine g_exit ?_ | refine g_skip ?_)
    exact ret1 rfl (resT rfl) ⟨rfl, rfl⟩
  · rw [show decide ((la : Int) > 60) = false from decide_eq_false (by omega)]
    refine o_move ?_
    refine o_want rfl rfl rfl rfl rfl (o_move ?_)
    refine o_want rfl rfl rfl rfl rfl (o_len rfl rfl ?_)
    refine o_want rfl rfl rfl rfl rfl (o_gtr rfl rfl ?_)
    refine o_pick_f rfl rfl ?_
    refine g_endt ?_
    by_cases h2 : 60 < lb
    · first | refine g_seq (g_cond_t rfl (by simp; omega) ?_) | refine g_cond_t rfl (by simp; omega) ?_
      repeat (first | refine g_endt ?_ | refine g_end ?_ | refine g_then ?_ | refine g_in_normal ?_ | refine g_then_ret ?_ | refine g_in_ret ?_ | refine g_then_exit ?_ | refine g_in_exit rfl ?_ | refine g_in_exit_ne (by decide) ?_ | refine g_seq ?_ | refine g_region ?_ | refine g_block ?_ | refine g_ret ?_ | refine g_return_n ?_ | refine g_exit ?_ | refine g_skip ?_)
      refine o_call wakes_spec rfl rfl ?_
      rintro _ _ ⟨rfl, rfl⟩
      refine o_assign ?_
      first | refine g_endt ?_ | refine g_end ?_
      repeat (first | refine g_endt ?_ | refine g_end ?_ | refine g_then ?_ | refine g_in_normal ?_ | refine g_then_ret ?_ | refine g_in_ret ?_ | refine g_then_exit ?_ | refine g_in_exit rfl ?_ | refine g_in_exit_ne (by decide) ?_ | refine g_seq ?_ | refine g_region ?_ | refine g_block ?_ | refine g_ret ?_ | refine g_return_n ?_ | refine g_exit ?_ | refine g_skip ?_)
      exact ret1 rfl (resT rfl) ⟨rfl, rfl⟩
    · first | refine g_seq (g_cond_f rfl (by simp; omega) ?_) | refine g_cond_f rfl (by simp; omega) ?_
      repeat (first | refine g_endt ?_ | refine g_end ?_ | refine g_then ?_ | refine g_in_normal ?_ | refine g_then_ret ?_ | refine g_in_ret ?_ | refine g_then_exit ?_ | refine g_in_exit rfl ?_ | refine g_in_exit_ne (by decide) ?_ | refine g_seq ?_ | refine g_region ?_ | refine g_block ?_ | refine g_ret ?_ | refine g_return_n ?_ | refine g_exit ?_ | refine g_skip ?_)
      refine o_move ?_
      refine o_callp (CopyElem_spec A la ca xs hx (by omega)) rfl rfl ?_
      rintro _ _ ⟨S, c, rfl, rfl⟩
      refine G.frz ?_
      refine o_move ?_
      refine o_callp (CopyInt_spec B lb cb ns hn (by omega)) rfl rfl ?_
      rintro _ _ ⟨T, d, rfl, rfl⟩
      refine G.frz ?_
      refine o_assign ?_
      refine o_assign ?_
      first | refine g_endt ?_ | refine g_end ?_
      repeat (first | refine g_endt ?_ | refine g_end ?_ | refine g_then ?_ | refine g_in_normal ?_ | refine g_then_ret ?_ | refine g_in_ret ?_ | refine g_then_exit ?_ | refine g_in_exit rfl ?_ | refine g_in_exit_ne (by decide) ?_ | refine g_seq ?_ | refine g_region ?_ | refine g_block ?_ | refine g_ret ?_ | refine g_return_n ?_ | refine g_exit ?_ | refine g_skip ?_)
      refine o_move ?_
      refine o_move ?_
      refine o_callp (O_spec S T la c lb d xs ns hx hn ha hb) rfl rfl ?_
      rintro _ _ ⟨rfl, rfl⟩
      refine o_move ?_
      refine o_move ?_
      refine o_callp (Oref_spec A B la ca lb cb xs ns hx hn ha hb) rfl rfl ?_
      rintro _ _ ⟨rfl, rfl⟩
      refine o_eqty rfl rfl (eq_bool (OD xs ns) (OD xs ns)) ?_
      rw [beqB]
      refine o_move ?_
      refine o_want rfl rfl rfl rfl rfl (o_move ?_)
      refine o_want rfl rfl rfl rfl rfl (o_move ?_)
      refine o_want rfl rfl rfl rfl rfl (o_callp (Elems_spec S A la c ca xs hx ha) rfl rfl ?_)
      rintro _ _ ⟨rfl, rfl⟩
      refine o_pick_t rfl rfl ?_
      refine o_move ?_
      refine o_want rfl rfl rfl rfl rfl (o_move ?_)
      refine o_want rfl rfl rfl rfl rfl (o_move ?_)
      refine o_want rfl rfl rfl rfl rfl (o_callp (Ints_spec T B lb d cb ns hn hb) rfl rfl ?_)
      rintro _ _ ⟨rfl, rfl⟩
      refine o_pick_t rfl rfl ?_
      refine o_move ?_
      refine o_want rfl rfl rfl rfl rfl (o_call wakes_spec rfl rfl ?_)
      rintro _ _ ⟨rfl, rfl⟩
      first | refine o_pick_t rfl rfl ?_ | refine o_pick_f rfl rfl ?_
      refine o_assign ?_
      first | refine g_endt ?_ | refine g_end ?_
      repeat (first | refine g_endt ?_ | refine g_end ?_ | refine g_then ?_ | refine g_in_normal ?_ | refine g_then_ret ?_ | refine g_in_ret ?_ | refine g_then_exit ?_ | refine g_in_exit rfl ?_ | refine g_in_exit_ne (by decide) ?_ | refine g_seq ?_ | refine g_region ?_ | refine g_block ?_ | refine g_ret ?_ | refine g_return_n ?_ | refine g_exit ?_ | refine g_skip ?_)
      exact ret1 rfl (resT rfl) ⟨rfl, rfl⟩
end Go.Proofs.Ythledhcealmkbaa
