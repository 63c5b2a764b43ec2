/- For every input of the types that it takes, 'InstCuts' answers true and leaves what was there as it was. -/
import Derived.Test.YtkglmhgehccmoaaRows
import Derived.Test.YtkglmhgehccmoaaZA4

set_option linter.unusedSimpArgs false
set_option linter.unusedVariables false
namespace Go.Proofs.Ytkglmhgehccmoaa
open Go Go.Sl Go.ChangeShapes Go.WideShapes Go.ChangeAt Go.RowKit

theorem ownI1 : ownKnob Try.prog.godebug = none := by kernel_rfl
theorem laidOutI1 : laidOutB Try.prog = true := by kernel_rfl
theorem paramsI1 : Try.f3.params = #[22, 3] := by kernel_rfl
set_option maxRecDepth 100000 in
theorem InstCuts_lifted (os : Os) (started : os.Started) (H : Type) (enc : TypeId × Value → H) :
    ReturnsInHanded {} Try.checked os 3 .any (Rows.instCutsSpec.pre6 enc Try.prog Try.f3 Rows.instCutsRow.domain false) (Rows.instCutsSpec.post enc Try.prog Try.f3 false true false false) := by
  refine returnsInHanded_of_change (C := Try.checked) ownI1 started (by kernel_rfl) Try.func3
    (ChangeSpec.witness6 (enc := enc) (C := Try.checked) false ⟨#[], #[.slice none 0 0, .int .i64 0], []⟩ 8 (by kernel_rfl) (by kernel_rfl) (by kernel_rfl) (by kernel_rfl)) ?_
  intro W base args ds gs before hval0 hW hcnd _
  have hval : ∀ (j : Nat) t v, Try.f3.params[j]? = some t → args[j]? = some v → Value.okWide Try.prog W .any base t v := hval0
  have hW' := hW
  obtain ⟨p, q, hA0, hV, rfl, hfz, hnd⟩ := hW
  have hA : DataW.TrodAll enc Try.prog W 0 (fun _ => true) true Try.f3.params.toList args.toList ds p := hA0
  rw [paramsI1] at hA hval
  obtain ⟨v0, v1, d0, d1, p0, p1, rfl, rfl, rfl, h0, h1⟩ := trodAll_two hA
  obtain ⟨A0, n0, c0, y0, rfl, l0, m0, r0⟩ := open_psl (en := encI) (by kernel_rfl) (by kernel_rfl) (by decide) (fun _ _ _ h => cells_encI h) (hval 0 _ v0 rfl rfl) h0
  obtain ⟨x1, rfl, -, b1⟩ := open_int (k := .i64) (by kernel_rfl) (hval 1 _ v1 rfl rfl) h1
  refine (law_calls (InstCuts_spec A0 n0 c0 y0 l0 (Nat.le_trans m0 (by decide)) x1) (holds_psl (holds_nil W) r0)).mono ?_
  rintro _ W' ⟨v, L', rfl, ⟨rfl, rfl⟩, hb⟩
  exact ⟨_, rfl, post_law (tb := 4) hW' laidOutI1 rfl rfl (by kernel_rfl) (by kernel_rfl) (by rw [paramsI1]; intro t ht; simp at ht; rcases ht with rfl | rfl <;> exact ⟨by kernel_rfl, of_decide_eq_true (by kernel_rfl)⟩) hb⟩
set_option maxHeartbeats 4000000 in
theorem closedI1 : joinedFacts Try.prog 3 Try.f3 Rows.instCutsSpec Rows.instCutsRow = true := by
  unfold joinedFacts
  simp only [Bool.and_eq_true]
  repeat' apply And.intro
  all_goals (as_aux_lemma => kernel_rfl)
theorem namedI1 : Try.pinned.checked.prog.funcNamed Rows.instCutsRow.func = some 3 := by kernel_rfl
theorem instI1 : Try.f3.isInstance Try.prog Rows.instCutsRow.origin Rows.instCutsRow.targs := of_decide_eq_true (by kernel_rfl)
theorem InstCuts_holds : Rows.InstCutsSaid :=
  OpenClaim.holds_of_wide 3 Try.f3 rfl rfl rfl rfl rfl rfl rfl ⟨rfl, rfl, rfl, rfl, rfl⟩ rfl rfl rfl rfl rfl namedI1 Try.func3 closedI1
    instI1 (by unfold Func.isWrapper; first | (rw [if_pos (by decide +kernel)]; kernel_rfl) | (rw [if_neg (by decide +kernel)]; exact ⟨rfl, rfl⟩))
    (fun os started H enc _ => InstCuts_lifted os started H enc)
end Go.Proofs.Ytkglmhgehccmoaa
