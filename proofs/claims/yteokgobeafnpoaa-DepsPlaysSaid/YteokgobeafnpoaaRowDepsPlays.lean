/- For every input of the types that it takes, 'DepsPlays' answers true and leaves what was there as it was. -/
import Derived.Test.YteokgobeafnpoaaRows
import Derived.Test.YteokgobeafnpoaaZA5

set_option linter.unusedSimpArgs false
set_option linter.unusedVariables false
namespace Go.Proofs.Yteokgobeafnpoaa
open Go Go.Sl Go.ChangeShapes Go.WideShapes Go.ChangeAt Go.RowKit

theorem ownY5 : ownKnob Try.prog.godebug = none := by kernel_rfl
theorem laidOutY5 : laidOutB Try.prog = true := by kernel_rfl
theorem paramsY5 : Try.f7.params = #[22] := by kernel_rfl
set_option maxRecDepth 100000 in
theorem DepsPlays_lifted (os : Os) (started : os.Started) (H : Type) (enc : TypeId × Value → H) :
    ReturnsInHanded {} Try.checked os 7 .any (Rows.depsPlaysSpec.pre6 enc Try.prog Try.f7 Rows.depsPlaysRow.domain false) (Rows.depsPlaysSpec.post enc Try.prog Try.f7 false true false false) := by
  refine returnsInHanded_of_change (C := Try.checked) ownY5 started (by kernel_rfl) Try.func7
    (ChangeSpec.witness6 (enc := enc) (C := Try.checked) false ⟨#[], #[.slice none 0 0], []⟩ 8 (by kernel_rfl) (by kernel_rfl) (by kernel_rfl) (by kernel_rfl)) ?_
  intro W base args ds gs before hval0 hW hcnd _
  have hval : ∀ (j : Nat) t v, Try.f7.params[j]? = some t → args[j]? = some v → Value.okWide Try.prog W .any base t v := hval0
  have hW' := hW
  obtain ⟨p, q, hA0, hV, rfl, hfz, hnd⟩ := hW
  have hA : DataW.TrodAll enc Try.prog W 0 (fun _ => true) true Try.f7.params.toList args.toList ds p := hA0
  rw [paramsY5] at hA hval
  obtain ⟨v0, d0, rfl, rfl, h0⟩ := trodAll_one hA
  obtain ⟨A0, n0, c0, y0, rfl, l0, m0, r0, w0⟩ := open_dacts (hval 0 _ v0 rfl rfl) h0
  refine (law_calls (DepsPlays_spec A0 n0 c0 y0 l0 (Nat.le_trans m0 (by decide)) (fun q hq => (w0 q hq).1)) (holds_psl (holds_rowsG (holds_nil W) fun q hq => by obtain ⟨z, hz, rfl⟩ := List.mem_map.1 hq; exact (w0 z hz).2.2) r0)).mono ?_
  rintro _ W' ⟨v, L', rfl, ⟨rfl, rfl⟩, hb⟩
  exact ⟨_, rfl, post_law (tb := 4) hW' laidOutY5 rfl rfl (by kernel_rfl) (by kernel_rfl) (by rw [paramsY5]; intro t ht; simp at ht; rcases ht with rfl <;> exact ⟨by kernel_rfl, of_decide_eq_true (by kernel_rfl)⟩) hb⟩
set_option maxHeartbeats 4000000 in
theorem closedY5 : joinedFacts Try.prog 7 Try.f7 Rows.depsPlaysSpec Rows.depsPlaysRow = true := by
  unfold joinedFacts
  simp only [Bool.and_eq_true]
  repeat' apply And.intro
  all_goals (as_aux_lemma => kernel_rfl)
theorem namedY5 : Try.pinned.checked.prog.funcNamed Rows.depsPlaysRow.func = some 7 := by kernel_rfl
theorem instY5 : Try.f7.isInstance Try.prog Rows.depsPlaysRow.origin Rows.depsPlaysRow.targs := of_decide_eq_true (by kernel_rfl)
theorem DepsPlays_holds : Rows.DepsPlaysSaid :=
  OpenClaim.holds_of_wide 7 Try.f7 rfl rfl rfl rfl rfl rfl rfl ⟨rfl, rfl, rfl, rfl, rfl⟩ rfl rfl rfl rfl rfl namedY5 Try.func7 closedY5
    instY5 (by unfold Func.isWrapper; first | (rw [if_pos (by decide +kernel)]; kernel_rfl) | (rw [if_neg (by decide +kernel)]; exact ⟨rfl, rfl⟩))
    (fun os started H enc _ => DepsPlays_lifted os started H enc)
end Go.Proofs.Yteokgobeafnpoaa
