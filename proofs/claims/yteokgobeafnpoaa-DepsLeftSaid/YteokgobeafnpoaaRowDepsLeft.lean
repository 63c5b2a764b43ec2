/- For every input of the types that it takes, 'DepsLeft' answers true and leaves what was there as it was. -/
import Derived.Test.YteokgobeafnpoaaRows
import Derived.Test.YteokgobeafnpoaaZA5

set_option linter.unusedSimpArgs false
set_option linter.unusedVariables false
namespace Go.Proofs.Yteokgobeafnpoaa
open Go Go.Sl Go.ChangeShapes Go.WideShapes Go.ChangeAt Go.RowKit

theorem ownY1 : ownKnob Try.prog.godebug = none := by kernel_rfl
theorem laidOutY1 : laidOutB Try.prog = true := by kernel_rfl
theorem paramsY1 : Try.f4.params = #[22, 3, 3] := by kernel_rfl
set_option maxRecDepth 100000 in
theorem DepsLeft_lifted (os : Os) (started : os.Started) (H : Type) (enc : TypeId × Value → H) :
    ReturnsInHanded {} Try.checked os 4 .any (Rows.depsLeftSpec.pre6 enc Try.prog Try.f4 Rows.depsLeftRow.domain false) (Rows.depsLeftSpec.post enc Try.prog Try.f4 false true false false) := by
  refine returnsInHanded_of_change (C := Try.checked) ownY1 started (by kernel_rfl) Try.func4
    (ChangeSpec.witness6 (enc := enc) (C := Try.checked) false ⟨#[], #[.slice none 0 0, .int .i64 0, .int .i64 0], []⟩ 8 (by kernel_rfl) (by kernel_rfl) (by kernel_rfl) (by kernel_rfl)) ?_
  intro W base args ds gs before hval0 hW hcnd _
  have hval : ∀ (j : Nat) t v, Try.f4.params[j]? = some t → args[j]? = some v → Value.okWide Try.prog W .any base t v := hval0
  have hW' := hW
  obtain ⟨p, q, hA0, hV, rfl, hfz, hnd⟩ := hW
  have hA : DataW.TrodAll enc Try.prog W 0 (fun _ => true) true Try.f4.params.toList args.toList ds p := hA0
  rw [paramsY1] at hA hval
  obtain ⟨v0, v1, v2, d0, d1, d2, p0, p1, p2, rfl, rfl, rfl, h0, h1, h2⟩ := trodAll_three hA
  obtain ⟨A0, n0, c0, y0, rfl, l0, m0, r0, w0⟩ := open_dacts (hval 0 _ v0 rfl rfl) h0
  obtain ⟨x1, rfl, -, b1⟩ := open_int (k := .i64) (by kernel_rfl) (hval 1 _ v1 rfl rfl) h1
  obtain ⟨x2, rfl, -, b2⟩ := open_int (k := .i64) (by kernel_rfl) (hval 2 _ v2 rfl rfl) h2
  refine (law_calls (DepsLeft_spec A0 n0 c0 y0 l0 (Nat.le_trans m0 (by decide)) (fun q hq => (w0 q hq).1) x1 x2) (holds_psl (holds_rowsG (holds_nil W) fun q hq => by obtain ⟨z, hz, rfl⟩ := List.mem_map.1 hq; exact (w0 z hz).2.2) r0)).mono ?_
  rintro _ W' ⟨v, L', rfl, ⟨rfl, rfl⟩, hb⟩
  exact ⟨_, rfl, post_law (tb := 4) hW' laidOutY1 rfl rfl (by kernel_rfl) (by kernel_rfl) (by rw [paramsY1]; intro t ht; simp at ht; rcases ht with rfl | rfl | rfl <;> exact ⟨by kernel_rfl, of_decide_eq_true (by kernel_rfl)⟩) hb⟩
set_option maxHeartbeats 4000000 in
theorem closedY1 : joinedFacts Try.prog 4 Try.f4 Rows.depsLeftSpec Rows.depsLeftRow = true := by
  unfold joinedFacts
  simp only [Bool.and_eq_true]
  repeat' apply And.intro
  all_goals (as_aux_lemma => kernel_rfl)
theorem namedY1 : Try.pinned.checked.prog.funcNamed Rows.depsLeftRow.func = some 4 := by kernel_rfl
theorem instY1 : Try.f4.isInstance Try.prog Rows.depsLeftRow.origin Rows.depsLeftRow.targs := of_decide_eq_true (by kernel_rfl)
theorem DepsLeft_holds : Rows.DepsLeftSaid :=
  OpenClaim.holds_of_wide 4 Try.f4 rfl rfl rfl rfl rfl rfl rfl ⟨rfl, rfl, rfl, rfl, rfl⟩ rfl rfl rfl rfl rfl namedY1 Try.func4 closedY1
    instY1 (by unfold Func.isWrapper; first | (rw [if_pos (by decide +kernel)]; kernel_rfl) | (rw [if_neg (by decide +kernel)]; exact ⟨rfl, rfl⟩))
    (fun os started H enc _ => DepsLeft_lifted os started H enc)
end Go.Proofs.Yteokgobeafnpoaa
