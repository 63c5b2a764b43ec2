/- For every input of the types that it takes, 'PickRow' answers true and leaves what was there as it was. -/
import Derived.Test.YtljiooihhfndjaaRows
import Derived.Test.YtljiooihhfndjaaZA6

set_option linter.unusedSimpArgs false
set_option linter.unusedVariables false
namespace Go.Proofs.Ytljiooihhfndjaa
open Go Go.Sl Go.ChangeShapes Go.WideShapes Go.ChangeAt Go.RowKit

theorem ownP7 : ownKnob Try.prog.godebug = none := by kernel_rfl
theorem laidOutP7 : laidOutB Try.prog = true := by kernel_rfl
theorem paramsP7 : Try.f7.params = #[3, 4, 4] := by kernel_rfl
set_option maxRecDepth 100000 in
theorem PickRow_lifted (os : Os) (started : os.Started) (H : Type) (enc : TypeId × Value → H) :
    ReturnsInHanded {} Try.checked os 7 .any (Rows.pickRowSpec.pre6 enc Try.prog Try.f7 Rows.pickRowRow.domain false) (Rows.pickRowSpec.post enc Try.prog Try.f7 false true false false) := by
  refine returnsInHanded_of_change (C := Try.checked) ownP7 started (by kernel_rfl) Try.func7
    (ChangeSpec.witness6 (enc := enc) (C := Try.checked) false ⟨#[], #[.int .i64 0, .bool false, .bool false], []⟩ 8 (by kernel_rfl) (by kernel_rfl) (by kernel_rfl) (by kernel_rfl)) ?_
  intro W base args ds gs before hval0 hW hcnd _
  have hval : ∀ (j : Nat) t v, Try.f7.params[j]? = some t → args[j]? = some v → Value.okWide Try.prog W .any base t v := hval0
  have hW' := hW
  obtain ⟨p, q, hA0, hV, rfl, hfz, hnd⟩ := hW
  have hA : DataW.TrodAll enc Try.prog W 0 (fun _ => true) true Try.f7.params.toList args.toList ds p := hA0
  rw [paramsP7] at hA hval
  obtain ⟨v0, v1, v2, d0, d1, d2, p0, p1, p2, rfl, rfl, rfl, h0, h1, h2⟩ := trodAll_three hA
  obtain ⟨x0, rfl, -, b0⟩ := open_int (k := .i64) (by kernel_rfl) (hval 0 _ v0 rfl rfl) h0
  obtain ⟨x1, rfl, -, -⟩ := open_bool (by kernel_rfl) (hval 1 _ v1 rfl rfl) h1
  obtain ⟨x2, rfl, -, -⟩ := open_bool (by kernel_rfl) (hval 2 _ v2 rfl rfl) h2
  refine (law_calls (PickRow_spec x0 x1 x2) (holds_nil W)).mono ?_
  rintro _ W' ⟨v, L', rfl, ⟨rfl, rfl⟩, hb⟩
  exact ⟨_, rfl, post_law (tb := 4) hW' laidOutP7 rfl rfl (by kernel_rfl) (by kernel_rfl) (by rw [paramsP7]; intro t ht; simp at ht; rcases ht with rfl | rfl | rfl <;> exact ⟨by kernel_rfl, of_decide_eq_true (by kernel_rfl)⟩) hb⟩
set_option maxHeartbeats 4000000 in
theorem closedP7 : joinedFacts Try.prog 7 Try.f7 Rows.pickRowSpec Rows.pickRowRow = true := by
  unfold joinedFacts
  simp only [Bool.and_eq_true]
  repeat' apply And.intro
  all_goals (as_aux_lemma => kernel_rfl)
theorem namedP7 : Try.pinned.checked.prog.funcNamed Rows.pickRowRow.func = some 7 := by kernel_rfl
theorem instP7 : Try.f7.isInstance Try.prog Rows.pickRowRow.origin Rows.pickRowRow.targs := of_decide_eq_true (by kernel_rfl)
theorem PickRow_holds : Rows.PickRowSaid :=
  OpenClaim.holds_of_wide 7 Try.f7 rfl rfl rfl rfl rfl rfl rfl ⟨rfl, rfl, rfl, rfl, rfl⟩ rfl rfl rfl rfl rfl namedP7 Try.func7 closedP7
    instP7 (by unfold Func.isWrapper; first | (rw [if_pos (by decide +kernel)]; kernel_rfl) | (rw [if_neg (by decide +kernel)]; exact ⟨rfl, rfl⟩))
    (fun os started H enc _ => PickRow_lifted os started H enc)
end Go.Proofs.Ytljiooihhfndjaa
