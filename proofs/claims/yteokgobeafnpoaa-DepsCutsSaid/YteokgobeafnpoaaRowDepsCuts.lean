/- For every input of the types that it takes, 'DepsCuts' answers true and leaves what was there as it was. -/
import Derived.Test.YteokgobeafnpoaaRows
import Derived.Test.YteokgobeafnpoaaZA5

set_option linter.unusedSimpArgs false
set_option linter.unusedVariables false
namespace Go.Proofs.Yteokgobeafnpoaa
open Go Go.Sl Go.ChangeShapes Go.WideShapes Go.ChangeAt Go.RowKit

theorem ownY2 : ownKnob Try.prog.godebug = none := by kernel_rfl
theorem laidOutY2 : laidOutB Try.prog = true := by kernel_rfl
theorem paramsY2 : Try.f6.params = #[22, 3] := by kernel_rfl
set_option maxRecDepth 100000 in
theorem DepsCuts_lifted (os : Os) (started : os.Started) (H : Type) (enc : TypeId × Value → H) :
    ReturnsInHanded {} Try.checked os 6 .any (Rows.depsCutsSpec.pre6 enc Try.prog Try.f6 Rows.depsCutsRow.domain false) (Rows.depsCutsSpec.post enc Try.prog Try.f6 false true false false) := by
  refine returnsInHanded_of_change (C := Try.checked) ownY2 started (by kernel_rfl) Try.func6
    (ChangeSpec.witness6 (enc := enc) (C := Try.checked) false ⟨#[], #[.slice none 0 0, .int .i64 0], []⟩ 8 (by kernel_rfl) (by kernel_rfl) (by kernel_rfl) (by kernel_rfl)) ?_
  intro W base args ds gs before hval0 hW hcnd _
  have hval : ∀ (j : Nat) t v, Try.f6.params[j]? = some t → args[j]? = some v → Value.okWide Try.prog W .any base t v := hval0
  have hW' := hW
  obtain ⟨p, q, hA0, hV, rfl, hfz, hnd⟩ := hW
  have hA : DataW.TrodAll enc Try.prog W 0 (fun _ => true) true Try.f6.params.toList args.toList ds p := hA0
  rw [paramsY2] at hA hval
  obtain ⟨v0, v1, d0, d1, p0, p1, rfl, rfl, rfl, h0, h1⟩ := trodAll_two hA
  obtain ⟨A0, n0, c0, y0, rfl, l0, m0, r0, w0⟩ := open_dacts (hval 0 _ v0 rfl rfl) h0
  obtain ⟨x1, rfl, -, b1⟩ := open_int (k := .i64) (by kernel_rfl) (hval 1 _ v1 rfl rfl) h1
  refine (law_calls (DepsCuts_spec A0 n0 c0 y0 l0 (Nat.le_trans m0 (by decide)) (fun q hq => (w0 q hq).1) x1) (holds_psl (holds_rowsG (holds_nil W) fun q hq => by obtain ⟨z, hz, rfl⟩ := List.mem_map.1 hq; exact (w0 z hz).2.2) r0)).mono ?_
  rintro _ W' ⟨v, L', rfl, ⟨rfl, rfl⟩, hb⟩
  exact ⟨_, rfl, post_law (tb := 4) hW' laidOutY2 rfl rfl (by kernel_rfl) (by kernel_rfl) (by rw [paramsY2]; intro t ht; simp at ht; rcases ht with rfl | rfl <;> exact ⟨by kernel_rfl, of_decide_eq_true (by kernel_rfl)⟩) hb⟩
set_option maxHeartbeats 4000000 in
theorem closedY2 : joinedFacts Try.prog 6 Try.f6 Rows.depsCutsSpec Rows.depsCutsRow = true := by
  unfold joinedFacts
  simp only [Bool.and_eq_true]
  repeat' apply And.intro
  all_goals (as_aux_lemma => kernel_rfl)
theorem namedY2 : Try.pinned.checked.prog.funcNamed Rows.depsCutsRow.func = some 6 := by kernel_rfl
theorem instY2 : Try.f6.isInstance Try.prog Rows.depsCutsRow.origin Rows.depsCutsRow.targs := of_decide_eq_true (by kernel_rfl)
theorem DepsCuts_holds : Rows.DepsCutsSaid :=
  OpenClaim.holds_of_wide 6 Try.f6 rfl rfl rfl rfl rfl rfl rfl ⟨rfl, rfl, rfl, rfl, rfl⟩ rfl rfl rfl rfl rfl namedY2 Try.func6 closedY2
    instY2 (by unfold Func.isWrapper; first | (rw [if_pos (by decide +kernel)]; kernel_rfl) | (rw [if_neg (by decide +kernel)]; exact ⟨rfl, rfl⟩))
    (fun os started H enc _ => DepsCuts_lifted os started H enc)
end Go.Proofs.Yteokgobeafnpoaa
