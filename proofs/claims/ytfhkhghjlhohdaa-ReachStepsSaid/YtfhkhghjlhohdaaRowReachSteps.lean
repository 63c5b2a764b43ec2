/- For every input of the types that it takes, 'ReachSteps' answers true and leaves what was there as it was. -/
import Derived.Test.YtfhkhghjlhohdaaRows
import Derived.Test.YtfhkhghjlhohdaaZV1

set_option linter.unusedSimpArgs false
set_option linter.unusedVariables false
namespace Go.Proofs.Ytfhkhghjlhohdaa
open Go Go.Sl Go.ChangeShapes Go.WideShapes Go.ChangeAt Go.RowKit

theorem ownR5 : ownKnob Try.prog.godebug = none := by kernel_rfl
theorem laidOutR5 : laidOutB Try.prog = true := by kernel_rfl
theorem paramsR5 : Try.f6.params = #[22, 23] := by kernel_rfl
set_option maxRecDepth 100000 in
theorem ReachSteps_lifted (os : Os) (started : os.Started) (H : Type) (enc : TypeId × Value → H) :
    ReturnsInHanded {} Try.checked os 6 .any (Rows.reachStepsSpec.pre6 enc Try.prog Try.f6 Rows.reachStepsRow.domain false) (Rows.reachStepsSpec.post enc Try.prog Try.f6 false true false false) := by
  refine returnsInHanded_of_change (C := Try.checked) ownR5 started (by kernel_rfl) Try.func6
    (ChangeSpec.witness6 (enc := enc) (C := Try.checked) false ⟨#[], #[.slice none 0 0, .slice none 0 0], []⟩ 8 (by kernel_rfl) (by kernel_rfl) (by kernel_rfl) (by kernel_rfl)) ?_
  intro W base args ds gs before hval0 hW hcnd _
  have hval : ∀ (j : Nat) t v, Try.f6.params[j]? = some t → args[j]? = some v → Value.okWide Try.prog W .any base t v := hval0
  have hW' := hW
  obtain ⟨p, q, hA0, hV, rfl, hfz, hnd⟩ := hW
  have hA : DataW.TrodAll enc Try.prog W 0 (fun _ => true) true Try.f6.params.toList args.toList ds p := hA0
  rw [paramsR5] at hA hval
  obtain ⟨v0, v1, d0, d1, p0, p1, rfl, rfl, rfl, h0, h1⟩ := trodAll_two hA
  obtain ⟨A0, n0, c0, y0, rfl, l0, m0, r0⟩ := open_psl (en := encS) (by kernel_rfl) (by kernel_rfl) (by decide) (fun _ _ _ h => cells_encS h) (hval 0 _ v0 rfl rfl) h0
  obtain ⟨A1, n1, c1, y1, rfl, l1, m1, r1⟩ := open_psl (en := encE) (by kernel_rfl) (by kernel_rfl) (by decide) (fun _ _ _ h => cells_encE h) (hval 1 _ v1 rfl rfl) h1
  refine (law_calls (ReachSteps_spec A0 n0 c0 y0 l0 (Nat.le_trans m0 (by decide)) A1 n1 c1 y1 l1 (Nat.le_trans m1 (by decide))) (holds_psl (holds_psl (holds_nil W) r1) r0)).mono ?_
  rintro _ W' ⟨v, L', rfl, ⟨rfl, rfl⟩, hb⟩
  exact ⟨_, rfl, post_law (tb := 4) hW' laidOutR5 rfl rfl (by kernel_rfl) (by kernel_rfl) (by rw [paramsR5]; intro t ht; simp at ht; rcases ht with rfl | rfl <;> exact ⟨by kernel_rfl, of_decide_eq_true (by kernel_rfl)⟩) hb⟩
set_option maxHeartbeats 4000000 in
theorem closedR5 : joinedFacts Try.prog 6 Try.f6 Rows.reachStepsSpec Rows.reachStepsRow = true := by
  unfold joinedFacts
  simp only [Bool.and_eq_true]
  repeat' apply And.intro
  all_goals (as_aux_lemma => kernel_rfl)
theorem namedR5 : Try.pinned.checked.prog.funcNamed Rows.reachStepsRow.func = some 6 := by kernel_rfl
theorem instR5 : Try.f6.isInstance Try.prog Rows.reachStepsRow.origin Rows.reachStepsRow.targs := of_decide_eq_true (by kernel_rfl)
theorem ReachSteps_holds : Rows.ReachStepsSaid :=
  OpenClaim.holds_of_wide 6 Try.f6 rfl rfl rfl rfl rfl rfl rfl ⟨rfl, rfl, rfl, rfl, rfl⟩ rfl rfl rfl rfl rfl namedR5 Try.func6 closedR5
    instR5 (by unfold Func.isWrapper; first | (rw [if_pos (by decide +kernel)]; kernel_rfl) | (rw [if_neg (by decide +kernel)]; exact ⟨rfl, rfl⟩))
    (fun os started H enc _ => ReachSteps_lifted os started H enc)
end Go.Proofs.Ytfhkhghjlhohdaa
