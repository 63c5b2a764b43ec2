/- For every input of the types that it takes, 'PickDraws' answers true and leaves what was there as it was. -/
import Derived.Test.YtljiooihhfndjaaRows
import Derived.Test.YtljiooihhfndjaaZA6

set_option linter.unusedSimpArgs false
set_option linter.unusedVariables false
namespace Go.Proofs.Ytljiooihhfndjaa
open Go Go.Sl Go.ChangeShapes Go.WideShapes Go.ChangeAt Go.RowKit

theorem ownP5 : ownKnob Try.prog.godebug = none := by kernel_rfl
theorem laidOutP5 : laidOutB Try.prog = true := by kernel_rfl
theorem paramsP5 : Try.f5.params = #[3, 3] := by kernel_rfl
set_option maxRecDepth 100000 in
theorem PickDraws_lifted (os : Os) (started : os.Started) (H : Type) (enc : TypeId × Value → H) :
    ReturnsInHanded {} Try.checked os 5 .any (Rows.pickDrawsSpec.pre6 enc Try.prog Try.f5 Rows.pickDrawsRow.domain false) (Rows.pickDrawsSpec.post enc Try.prog Try.f5 false true false false) := by
  refine returnsInHanded_of_change (C := Try.checked) ownP5 started (by kernel_rfl) Try.func5
    (ChangeSpec.witness6 (enc := enc) (C := Try.checked) false ⟨#[], #[.int .i64 0, .int .i64 0], []⟩ 8 (by kernel_rfl) (by kernel_rfl) (by kernel_rfl) (by kernel_rfl)) ?_
  intro W base args ds gs before hval0 hW hcnd _
  have hval : ∀ (j : Nat) t v, Try.f5.params[j]? = some t → args[j]? = some v → Value.okWide Try.prog W .any base t v := hval0
  have hW' := hW
  obtain ⟨p, q, hA0, hV, rfl, hfz, hnd⟩ := hW
  have hA : DataW.TrodAll enc Try.prog W 0 (fun _ => true) true Try.f5.params.toList args.toList ds p := hA0
  rw [paramsP5] at hA hval
  obtain ⟨v0, v1, d0, d1, p0, p1, rfl, rfl, rfl, h0, h1⟩ := trodAll_two hA
  obtain ⟨x0, rfl, -, b0⟩ := open_int (k := .i64) (by kernel_rfl) (hval 0 _ v0 rfl rfl) h0
  obtain ⟨x1, rfl, -, b1⟩ := open_int (k := .i64) (by kernel_rfl) (hval 1 _ v1 rfl rfl) h1
  refine (law_calls (PickDraws_spec x0 x1) (holds_nil W)).mono ?_
  rintro _ W' ⟨v, L', rfl, ⟨rfl, rfl⟩, hb⟩
  exact ⟨_, rfl, post_law (tb := 4) hW' laidOutP5 rfl rfl (by kernel_rfl) (by kernel_rfl) (by rw [paramsP5]; intro t ht; simp at ht; rcases ht with rfl | rfl <;> exact ⟨by kernel_rfl, of_decide_eq_true (by kernel_rfl)⟩) hb⟩
set_option maxHeartbeats 4000000 in
theorem closedP5 : joinedFacts Try.prog 5 Try.f5 Rows.pickDrawsSpec Rows.pickDrawsRow = true := by
  unfold joinedFacts
  simp only [Bool.and_eq_true]
  repeat' apply And.intro
  all_goals (as_aux_lemma => kernel_rfl)
theorem namedP5 : Try.pinned.checked.prog.funcNamed Rows.pickDrawsRow.func = some 5 := by kernel_rfl
theorem instP5 : Try.f5.isInstance Try.prog Rows.pickDrawsRow.origin Rows.pickDrawsRow.targs := of_decide_eq_true (by kernel_rfl)
theorem PickDraws_holds : Rows.PickDrawsSaid :=
  OpenClaim.holds_of_wide 5 Try.f5 rfl rfl rfl rfl rfl rfl rfl ⟨rfl, rfl, rfl, rfl, rfl⟩ rfl rfl rfl rfl rfl namedP5 Try.func5 closedP5
    instP5 (by unfold Func.isWrapper; first | (rw [if_pos (by decide +kernel)]; kernel_rfl) | (rw [if_neg (by decide +kernel)]; exact ⟨rfl, rfl⟩))
    (fun os started H enc _ => PickDraws_lifted os started H enc)
end Go.Proofs.Ytljiooihhfndjaa
