/- The document's example of an ordered map. -/
import Derived.Test.YtlognaddmbolgaaMSI3
namespace Go.Proofs.Ytlognaddmbolgaa
open Go Go.Sl
attribute [local irreducible] Code.wpIn roundPost bodyPostM runL Ret Meets Begin

theorem find_nil {α : Type} {f : α → α → Int} {x : α} {i : Nat} {there : Bool} (h : FindR f [] x i there) : i = 0 ∧ there = false := by
  refine ⟨by have := h.1; simpa using this, ?_⟩
  cases there with
  | false => rfl
  | true => obtain ⟨y, hy, _⟩ := h.2.1 rfl; simp at hy
def sS : ByteArray := ⟨#[83]⟩
theorem exCmp : SymD.cmp ⟨1, sS, 2⟩ ⟨1, sS, 1⟩ = 1 := by
  simp only [SymD.cmp, lex, linS.refl, linI.refl]
  decide
theorem wakes02_spec : Ctr Try.prog 10 [] [] (fun v M => v = .bool true ∧ M = []) := by
  refine spec_of Try.func10 rfl Try.ntmps10 rfl fun w0 F => ?_
  repeat (first | refine g_endt ?_ | refine g_end ?_ | refine g_then ?_ | refine g_in_normal ?_ | refine g_then_ret ?_ | refine g_in_ret ?_ | refine g_then_exit ?_ | refine g_in_exit rfl ?_ | refine g_in_exit_ne (by decide) ?_ | refine g_seq ?_ | refine g_region ?_ | refine g_block ?_ | refine g_ret ?_ | refine g_return_n ?_ | refine g_exit ?_ | refine g_skip ?_)
  refine o_assign ?_
  first | refine g_endt ?_ | refine g_end ?_
  repeat (first | refine g_endt ?_ | refine g_end ?_ | refine g_then ?_ | refine g_in_normal ?_ | refine g_then_ret ?_ | refine g_in_ret ?_ | refine g_then_exit ?_ | refine g_in_exit rfl ?_ | refine g_in_exit_ne (by decide) ?_ | refine g_seq ?_ | refine g_region ?_ | refine g_block ?_ | refine g_ret ?_ | refine g_return_n ?_ | refine g_exit ?_ | refine g_skip ?_)
  refine o_call NewMSI_spec rfl rfl ?_
  rintro _ _ ⟨m, rfl, rfl⟩
  refine o_assign ?_
  first | refine g_endt ?_ | refine g_end ?_
  repeat (first | refine g_endt ?_ | refine g_end ?_ | refine g_then ?_ | refine g_in_normal ?_ | refine g_then_ret ?_ | refine g_in_ret ?_ | refine g_then_exit ?_ | refine g_in_exit rfl ?_ | refine g_in_exit_ne (by decide) ?_ | refine g_seq ?_ | refine g_region ?_ | refine g_block ?_ | refine g_ret ?_ | refine g_return_n ?_ | refine g_exit ?_ | refine g_skip ?_)
  refine o_move ?_
  refine o_peql rfl ?_
  first | refine g_endt ?_ | refine g_end ?_
  first | refine g_seq (g_cond_f rfl (rfl) ?_) | refine g_cond_f rfl (rfl) ?_
  repeat (first | refine g_endt ?_ | refine g_end ?_ | refine g_then ?_ | refine g_in_normal ?_ | refine g_then_ret ?_ | refine g_in_ret ?_ | refine g_then_exit ?_ | refine g_in_exit rfl ?_ | refine g_in_exit_ne (by decide) ?_ | refine g_seq ?_ | refine g_region ?_ | refine g_block ?_ | refine g_ret ?_ | refine g_return_n ?_ | refine g_exit ?_ | refine g_skip ?_)
  refine o_move ?_
  refine o_build (SymD.val ⟨1, sS, 2⟩) (fun w => by kernel_rfl) ?_
  refine o_call (PutMSI_spec m [] ⟨1, sS, 2⟩ 5 (fun i j a b _ h => by simp at h) (by simp)) rfl rfl ?_
  rintro _ M1 ⟨i, there, rfl, hM, hk⟩
  obtain ⟨rfl, rfl⟩ := find_nil hk
  have hM : M1 = [MapASI m [⟨⟨1, sS, 2⟩, 5⟩]] := hM
  subst hM
  refine g_endt ?_
  repeat (first | refine g_endt ?_ | refine g_end ?_ | refine g_then ?_ | refine g_in_normal ?_ | refine g_then_ret ?_ | refine g_in_ret ?_ | refine g_then_exit ?_ | refine g_in_exit rfl ?_ | refine g_in_exit_ne (by decide) ?_ | refine g_seq ?_ | refine g_region ?_ | refine g_block ?_ | refine g_ret ?_ | refine g_return_n ?_ | refine g_exit ?_ | refine g_skip ?_)
  refine o_move ?_
  refine o_build (SymD.val ⟨1, sS, 1⟩) (fun w => by kernel_rfl) ?_
  refine o_call (PutMSI_spec m [⟨⟨1, sS, 2⟩, 5⟩] ⟨1, sS, 1⟩ 7 (fun i j a b hij h h2 => by
    have := (List.getElem?_eq_some_iff.1 h2).1
    simp at this; omega) (by simp)) rfl rfl ?_
  rintro _ M1 ⟨i, there, rfl, hM, hk⟩
  have hk2 : i = 0 ∧ there = false := by
    have h1 := hk.1
    cases there with
    | true =>
      obtain ⟨y, hy, e⟩ := hk.2.1 rfl
      have hi : i = 0 := by have := (List.getElem?_eq_some_iff.1 hy).1; simp at this; exact this
      subst hi
      simp at hy
      subst hy
      exact absurd e (by show ¬ SymD.cmp ⟨1, sS, 2⟩ ⟨1, sS, 1⟩ = 0; rw [exCmp]; decide)
    | false =>
      refine ⟨?_, rfl⟩
      obtain ⟨h2, _⟩ := hk.2.2 rfl
      cases i with
      | zero => rfl
      | succ i =>
        have := h2 0 ⟨⟨1, sS, 2⟩, 5⟩ (by omega) rfl
        have e : SymD.cmp ⟨1, sS, 2⟩ ⟨1, sS, 1⟩ < 0 := this
        rw [exCmp] at e; omega
  obtain ⟨rfl, rfl⟩ := hk2
  have hM : M1 = [MapASI m [⟨⟨1, sS, 1⟩, 7⟩, ⟨⟨1, sS, 2⟩, 5⟩]] := hM
  subst hM
  refine g_endt ?_
  repeat (first | refine g_endt ?_ | refine g_end ?_ | refine g_then ?_ | refine g_in_normal ?_ | refine g_then_ret ?_ | refine g_in_ret ?_ | refine g_then_exit ?_ | refine g_in_exit rfl ?_ | refine g_in_exit_ne (by decide) ?_ | refine g_seq ?_ | refine g_region ?_ | refine g_block ?_ | refine g_ret ?_ | refine g_return_n ?_ | refine g_exit ?_ | refine g_skip ?_)
  refine o_move ?_
  refine o_call (FirstMSI_spec m [⟨⟨1, sS, 1⟩, 7⟩, ⟨⟨1, sS, 2⟩, 5⟩]) rfl rfl ?_
  rintro _ _ ⟨rfl, rfl⟩
  refine o_move ?_
  refine o_extract rfl rfl ?_
  refine o_extract rfl rfl ?_
  refine o_extract rfl rfl ?_
  refine o_alloc fun c => ?_
  refine o_store (v := SymD.val ⟨1, sS, 1⟩) rfl rfl rfl rfl rfl ?_
  refine o_assign ?_
  refine o_assign ?_
  refine g_endt ?_
  refine G.norm c (SymD.val ⟨1, sS, 1⟩).cells rfl ?_
  repeat (first | refine g_endt ?_ | refine g_end ?_ | refine g_then ?_ | refine g_in_normal ?_ | refine g_then_ret ?_ | refine g_in_ret ?_ | refine g_then_exit ?_ | refine g_in_exit rfl ?_ | refine g_in_exit_ne (by decide) ?_ | refine g_seq ?_ | refine g_region ?_ | refine g_block ?_ | refine g_ret ?_ | refine g_return_n ?_ | refine g_exit ?_ | refine g_skip ?_)
  refine o_move ?_
  refine o_move ?_
  refine o_want rfl rfl rfl rfl rfl (o_field rfl ?_)
  refine o_want rfl rfl rfl rfl rfl (o_load1 (v := .int .i64 1) rfl rfl ?_)
  refine o_want rfl rfl rfl rfl rfl (o_eql rfl rfl ?_)
  refine o_pick_t rfl rfl ?_
  refine o_move ?_
  refine o_want rfl rfl rfl rfl rfl (o_move ?_)
  refine o_want rfl rfl rfl rfl rfl (o_eql (a := 7) (b := 7) rfl rfl ?_)
  refine o_pick_t rfl rfl ?_
  refine o_assign ?_
  refine g_endt ?_
  repeat (first | refine g_endt ?_ | refine g_end ?_ | refine g_then ?_ | refine g_in_normal ?_ | refine g_then_ret ?_ | refine g_in_ret ?_ | refine g_then_exit ?_ | refine g_in_exit rfl ?_ | refine g_in_exit_ne (by decide) ?_ | refine g_seq ?_ | refine g_region ?_ | refine g_block ?_ | refine g_ret ?_ | refine g_return_n ?_ | refine g_exit ?_ | refine g_skip ?_)
  exact ret1 rfl (resT (v := .bool true) rfl) ⟨rfl, rfl⟩
end Go.Proofs.Ytlognaddmbolgaa
