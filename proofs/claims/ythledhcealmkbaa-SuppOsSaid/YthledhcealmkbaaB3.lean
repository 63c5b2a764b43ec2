/- The document's example. -/
import Derived.Test.YthledhcealmkbaaB2
namespace Go.Proofs.Ythledhcealmkbaa
open Go Go.Sl
attribute [local irreducible] Code.wpIn roundPost bodyPostM runL Ret Meets Begin

def exA : ElemD := ⟨⟨1, ⟨#[83]⟩, 1⟩, opSym, ⟨1, ⟨#[79]⟩, 1⟩, false, true, 0⟩
def exB : ElemD := ⟨⟨1, ⟨#[83]⟩, 2⟩, ⟨3, ⟨#[120]⟩, 0⟩, ⟨2, ByteArray.empty, 1⟩, false, true, 0⟩
theorem exOp : opSym.beq opSym = true := (SymD.beq_iff _ _).2 rfl
theorem exChosen : exA.chosen = true := by simp [ElemD.chosen, exA, exOp]
theorem exNot : OD [exA, exB] [1, 2] = false := by
  refine OD_false fun j hj => ?_
  match j with
  | 0 => simp [Oat, exChosen, lev, most]; omega
  | 1 =>
    have : exB.chosen = false := by
      have : ⟨3, ⟨#[120]⟩, 0⟩ ≠ opSym := by intro h; have := congrArg (fun s => s.text.size) h; simp [opSym, opText] at this; revert this; decide
      have h2 : SymD.beq ⟨3, ⟨#[120]⟩, 0⟩ opSym = false := by
        cases hb : SymD.beq ⟨3, ⟨#[120]⟩, 0⟩ opSym with
        | false => rfl
        | true => exact absurd ((SymD.beq_iff _ _).1 hb) this
      simp [ElemD.chosen, exB, h2]
    simp [Oat, this]
theorem exIs : OD [exA, exB] [2, 2] = true := OD_true (i := 0) (by simp) (by simp [Oat, exChosen, lev, most]; omega)
theorem wakes_spec : Ctr Try.prog 8 [] [] (fun v M => v = .bool true ∧ M = []) := by
  refine spec_of Try.func8 rfl Try.ntmps8 rfl fun w0 F => ?_
  repeat (first | refine g_endt ?_ | refine g_end ?_ | refine g_then ?_ | refine g_in_normal ?_ | refine g_then_ret ?_ | refine g_in_ret ?_ | refine g_then_exit ?_ | refine g_in_exit rfl ?_ | refine g_in_exit_ne (by decide) ?_ | refine g_seq ?_ | refine g_region ?_ | refine g_block ?_ | refine g_ret ?_ | refine g_return_n ?_ | refine g_exit ?_ | refine g_skip ?_)
  refine o_assign ?_
  first | refine g_endt ?_ | refine g_end ?_
  repeat (first | refine g_endt ?_ | refine g_end ?_ | refine g_then ?_ | refine g_in_normal ?_ | refine g_then_ret ?_ | refine g_in_ret ?_ | refine g_then_exit ?_ | refine g_in_exit rfl ?_ | refine g_in_exit_ne (by decide) ?_ | refine g_seq ?_ | refine g_region ?_ | refine g_block ?_ | refine g_ret ?_ | refine g_return_n ?_ | refine g_exit ?_ | refine g_skip ?_)
  refine o_call (I_spec ⟨#[83]⟩ 1) rfl rfl ?_
  rintro _ _ ⟨rfl, rfl⟩
  refine o_call (W_spec opText) rfl rfl ?_
  rintro _ _ ⟨rfl, rfl⟩
  refine o_call (I_spec ⟨#[79]⟩ 1) rfl rfl ?_
  rintro _ _ ⟨rfl, rfl⟩
  refine o_build exA.val (fun w => by kernel_rfl) ?_
  refine o_call (I_spec ⟨#[83]⟩ 2) rfl rfl ?_
  rintro _ _ ⟨rfl, rfl⟩
  refine o_call (W_spec ⟨#[120]⟩) rfl rfl ?_
  rintro _ _ ⟨rfl, rfl⟩
  refine o_call (N_spec 1) rfl rfl ?_
  rintro _ _ ⟨rfl, rfl⟩
  refine o_build exB.val (fun w => by kernel_rfl) ?_
  refine o_slice_lit (e := 35) (exA.val.cells ++ exB.val.cells) (fun w => by kernel_rfl) fun b => ?_
  change G _ _ [cellsB b (exA.val.cells ++ exB.val.cells) 35] _
  refine G.lit_slice (enc := encE) (sz := 12) [exA, exB] rfl (by decide) ?_
  refine G.freeze_slice ?_
  refine o_assign ?_
  first | refine g_endt ?_ | refine g_end ?_
  repeat (first | refine g_endt ?_ | refine g_end ?_ | refine g_then ?_ | refine g_in_normal ?_ | refine g_then_ret ?_ | refine g_in_ret ?_ | refine g_then_exit ?_ | refine g_in_exit rfl ?_ | refine g_in_exit_ne (by decide) ?_ | refine g_seq ?_ | refine g_region ?_ | refine g_block ?_ | refine g_ret ?_ | refine g_return_n ?_ | refine g_exit ?_ | refine g_skip ?_)
  refine o_move ?_
  refine o_slice_lit (e := 3) #[.int .i64 1, .int .i64 2] (fun w => by kernel_rfl) fun c => ?_
  refine G.lit_slice (enc := encI) (sz := 1) [1, 2] rfl (by decide) ?_
  refine G.freeze_slice ?_
  refine o_callp (O_spec _ _ 2 2 2 2 [exA, exB] [1, 2] rfl rfl (by decide) (by decide)) rfl rfl ?_
  rintro _ _ ⟨rfl, rfl⟩
  rw [exNot]
  refine o_not rfl ?_
  refine o_move ?_
  refine o_want rfl rfl rfl rfl rfl (o_move ?_)
  refine o_want rfl rfl rfl rfl rfl (o_slice_lit (e := 3) #[.int .i64 2, .int .i64 2] (fun w => by kernel_rfl) fun c2 => ?_)
  refine G.lit_slice (enc := encI) (sz := 1) [2, 2] rfl (by decide) ?_
  refine G.freeze_slice ?_
  refine o_want rfl rfl rfl rfl rfl (o_callp (O_spec _ _ 2 2 2 2 [exA, exB] [2, 2] rfl rfl (by decide) (by decide)) rfl rfl ?_)
  rintro _ _ ⟨rfl, rfl⟩
  rw [exIs]
  refine o_pick_t rfl rfl ?_
  refine o_move ?_
  refine o_want rfl rfl rfl rfl rfl (o_move ?_)
  refine o_want rfl rfl rfl rfl rfl (o_indexR (i := 0) (enc := encE) (ys := [exA, exB]) rfl rfl rfl (by decide) rfl rfl ?_)
  refine o_want rfl rfl rfl rfl rfl (o_loadE (i := 0) (z := exA) (enc := encE) (ys := [exA, exB]) rfl rfl rfl ?_)
  refine o_want rfl rfl rfl rfl rfl (o_call (Chosen_spec exA) rfl rfl ?_)
  rintro _ _ ⟨rfl, rfl⟩
  rw [exChosen]
  first | refine o_pick_t rfl rfl ?_ | refine o_pick_f rfl rfl ?_
  refine o_assign ?_
  first | refine g_endt ?_ | refine g_end ?_
  repeat (first | refine g_endt ?_ | refine g_end ?_ | refine g_then ?_ | refine g_in_normal ?_ | refine g_then_ret ?_ | refine g_in_ret ?_ | refine g_then_exit ?_ | refine g_in_exit rfl ?_ | refine g_in_exit_ne (by decide) ?_ | refine g_seq ?_ | refine g_region ?_ | refine g_block ?_ | refine g_ret ?_ | refine g_return_n ?_ | refine g_exit ?_ | refine g_skip ?_)
  exact ret1 rfl (resT rfl) ⟨rfl, rfl⟩
end Go.Proofs.Ythledhcealmkbaa
