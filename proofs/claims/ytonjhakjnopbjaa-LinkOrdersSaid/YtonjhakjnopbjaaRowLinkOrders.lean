/- For every input of the types that it takes, 'LinkOrders' answers true and leaves what was there as it was. -/
import Derived.Test.YtonjhakjnopbjaaRows
import Derived.Test.YtonjhakjnopbjaaZL4

set_option linter.unusedSimpArgs false
set_option linter.unusedVariables false
namespace Go.Proofs.Ytonjhakjnopbjaa
open Go Go.Sl Go.ChangeShapes Go.WideShapes Go.ChangeAt Go.RowKit

theorem ownN2 : ownKnob Try.prog.godebug = none := by kernel_rfl
theorem laidOutN2 : laidOutB Try.prog = true := by kernel_rfl
theorem paramsN2 : Try.f4.params = #[22, 3] := by kernel_rfl
set_option maxRecDepth 100000 in
theorem LinkOrders_lifted (os : Os) (started : os.Started) (H : Type) (enc : TypeId × Value → H) :
    ReturnsInHanded {} Try.checked os 4 .any (Rows.linkOrdersSpec.pre6 enc Try.prog Try.f4 Rows.linkOrdersRow.domain false) (Rows.linkOrdersSpec.post enc Try.prog Try.f4 false true false false) := by
  refine returnsInHanded_of_change (C := Try.checked) ownN2 started (by kernel_rfl) Try.func4
    (ChangeSpec.witness6 (enc := enc) (C := Try.checked) false ⟨#[], #[.slice none 0 0, .int .i64 0], []⟩ 8 (by kernel_rfl) (by kernel_rfl) (by kernel_rfl) (by kernel_rfl)) ?_
  intro W base args ds gs before hval0 hW hcnd _
  have hval : ∀ (j : Nat) t v, Try.f4.params[j]? = some t → args[j]? = some v → Value.okWide Try.prog W .any base t v := hval0
  have hW' := hW
  obtain ⟨p, q, hA0, hV, rfl, hfz, hnd⟩ := hW
  have hA : DataW.TrodAll enc Try.prog W 0 (fun _ => true) true Try.f4.params.toList args.toList ds p := hA0
  rw [paramsN2] at hA hval
  obtain ⟨v0, v1, d0, d1, p0, p1, rfl, rfl, rfl, h0, h1⟩ := trodAll_two hA
  obtain ⟨A0, n0, c0, y0, rfl, l0, m0, r0⟩ := open_psl (en := encE) (by kernel_rfl) (by kernel_rfl) (by decide) (fun _ _ _ h => cells_encE h) (hval 0 _ v0 rfl rfl) h0
  obtain ⟨x1, rfl, -, b1⟩ := open_int (k := .i64) (by kernel_rfl) (hval 1 _ v1 rfl rfl) h1
  refine (law_calls (LinkOrders_spec A0 n0 c0 y0 l0 (Nat.le_trans m0 (by decide)) x1) (holds_psl (holds_nil W) r0)).mono ?_
  rintro _ W' ⟨v, L', rfl, ⟨rfl, rfl⟩, hb⟩
  exact ⟨_, rfl, post_law (tb := 4) hW' laidOutN2 rfl rfl (by kernel_rfl) (by kernel_rfl) (by rw [paramsN2]; intro t ht; simp at ht; rcases ht with rfl | rfl <;> exact ⟨by kernel_rfl, of_decide_eq_true (by kernel_rfl)⟩) hb⟩
set_option maxHeartbeats 4000000 in
theorem closedN2 : joinedFacts Try.prog 4 Try.f4 Rows.linkOrdersSpec Rows.linkOrdersRow = true := by
  unfold joinedFacts
  simp only [Bool.and_eq_true]
  repeat' apply And.intro
  all_goals (as_aux_lemma => kernel_rfl)
theorem namedN2 : Try.pinned.checked.prog.funcNamed Rows.linkOrdersRow.func = some 4 := by kernel_rfl
theorem instN2 : Try.f4.isInstance Try.prog Rows.linkOrdersRow.origin Rows.linkOrdersRow.targs := of_decide_eq_true (by kernel_rfl)
theorem LinkOrders_holds : Rows.LinkOrdersSaid :=
  OpenClaim.holds_of_wide 4 Try.f4 rfl rfl rfl rfl rfl rfl rfl ⟨rfl, rfl, rfl, rfl, rfl⟩ rfl rfl rfl rfl rfl namedN2 Try.func4 closedN2
    instN2 (by unfold Func.isWrapper; first | (rw [if_pos (by decide +kernel)]; kernel_rfl) | (rw [if_neg (by decide +kernel)]; exact ⟨rfl, rfl⟩))
    (fun os started H enc _ => LinkOrders_lifted os started H enc)
end Go.Proofs.Ytonjhakjnopbjaa
