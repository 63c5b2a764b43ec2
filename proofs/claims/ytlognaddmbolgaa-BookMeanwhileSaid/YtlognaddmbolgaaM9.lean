/- For every input of the types that it takes, 'BookMeanwhile' answers true and leaves what was there as it was. -/
import Derived.Test.YtlognaddmbolgaaRows
import Derived.Test.YtlognaddmbolgaaWS
import Derived.Test.YtlognaddmbolgaaK13
namespace Go.Proofs.Ytlognaddmbolgaa
open Go Go.Sl Go.ChangeShapes Go.WideShapes Go.ChangeAt Go.RowKit

theorem ownM9 : ownKnob Try.prog.godebug = none := by kernel_rfl
theorem laidOutM9 : laidOutB Try.prog = true := by kernel_rfl
theorem paramsM9 : Try.f4.params = #[35] := by kernel_rfl
set_option maxRecDepth 100000 in
theorem BookMeanwhile_lifted (os : Os) (started : os.Started) (H : Type) (enc : TypeId × Value → H) :
    ReturnsInHanded {} Try.checked os 4 .any (Rows.bookMeanwhileSpec.pre6 enc Try.prog Try.f4 Rows.bookMeanwhileRow.domain false) (Rows.bookMeanwhileSpec.post enc Try.prog Try.f4 false true false false) := by
  refine returnsInHanded_of_change (C := Try.checked) ownM9 started (by kernel_rfl) Try.func4
    (ChangeSpec.witness6 (enc := enc) (C := Try.checked) false ⟨#[], #[.slice none 0 0], []⟩ 8 (by kernel_rfl) (by kernel_rfl) (by kernel_rfl) (by kernel_rfl)) ?_
  intro W base args ds gs before hval0 hW hcnd _
  have hval : ∀ (j : Nat) t v, Try.f4.params[j]? = some t → args[j]? = some v → Value.okWide Try.prog W .any base t v := hval0
  have hW' := hW
  obtain ⟨p, q, hA0, hV, rfl, hfz, hnd⟩ := hW
  have hA : DataW.TrodAll enc Try.prog W 0 (fun _ => true) true Try.f4.params.toList args.toList ds p := hA0
  rw [paramsM9] at hA hval
  obtain ⟨v0, d0, rfl, rfl, h0⟩ := trodAll_one hA
  obtain ⟨A0, n0, c0, y0, rfl, l0, m0, r0⟩ := open_psl (en := encS) (by kernel_rfl) (by kernel_rfl) (by decide) (fun _ _ _ h => cells_encS h) (hval 0 _ v0 rfl rfl) h0
  refine (law_calls (BookMeanwhile_spec A0 n0 c0 y0 l0 (Nat.le_trans m0 (by decide))) (holds_psl (holds_nil W) r0)).mono ?_
  rintro _ W' ⟨v, L', rfl, ⟨rfl, rfl⟩, hb⟩
  exact ⟨_, rfl, post_law (tb := 4) hW' laidOutM9 rfl rfl (by kernel_rfl) (by kernel_rfl) (by rw [paramsM9]; intro t ht; simp at ht; rcases ht with rfl <;> exact ⟨by kernel_rfl, of_decide_eq_true (by kernel_rfl)⟩) hb⟩
theorem BookMeanwhile_holds : Rows.BookMeanwhileSaid :=
  OpenClaim.holds_of_wide 4 Try.f4 rfl rfl rfl rfl rfl rfl rfl ⟨rfl, rfl, rfl, rfl, rfl⟩ rfl rfl rfl rfl rfl (by kernel_rfl) Try.func4 (by kernel_rfl)
    (of_decide_eq_true (by kernel_rfl)) (by unfold Func.isWrapper; first | (rw [if_pos (by decide +kernel)]; kernel_rfl) | (rw [if_neg (by decide +kernel)]; exact ⟨rfl, rfl⟩))
    (fun os started H enc _ => BookMeanwhile_lifted os started H enc)
end Go.Proofs.Ytlognaddmbolgaa
