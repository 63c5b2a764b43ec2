/- For every input of the types that it takes, 'LinkPlays' answers true and leaves what was there as it was. -/
import Derived.Test.YtonjhakjnopbjaaRows
import Derived.Test.YtonjhakjnopbjaaZO1

set_option linter.unusedSimpArgs false
set_option linter.unusedVariables false
namespace Go.Proofs.Ytonjhakjnopbjaa
open Go Go.Sl Go.ChangeShapes Go.WideShapes Go.ChangeAt Go.RowKit

theorem ownN5 : ownKnob Try.prog.godebug = none := by kernel_rfl
theorem laidOutN5 : laidOutB Try.prog = true := by kernel_rfl
theorem paramsN5 : Try.f6.params = #[47] := by kernel_rfl
set_option maxRecDepth 100000 in
theorem LinkPlays_lifted (os : Os) (started : os.Started) (H : Type) (enc : TypeId × Value → H) :
    ReturnsInHanded {} Try.checked os 6 .any (Rows.linkPlaysSpec.pre6 enc Try.prog Try.f6 Rows.linkPlaysRow.domain false) (Rows.linkPlaysSpec.post enc Try.prog Try.f6 false true false false) := by
  refine returnsInHanded_of_change (C := Try.checked) ownN5 started (by kernel_rfl) Try.func6
    (ChangeSpec.witness6 (enc := enc) (C := Try.checked) false ⟨#[], #[.slice none 0 0], []⟩ 8 (by kernel_rfl) (by kernel_rfl) (by kernel_rfl) (by kernel_rfl)) ?_
  intro W base args ds gs before hval0 hW hcnd _
  have hval : ∀ (j : Nat) t v, Try.f6.params[j]? = some t → args[j]? = some v → Value.okWide Try.prog W .any base t v := hval0
  have hW' := hW
  obtain ⟨p, q, hA0, hV, rfl, hfz, hnd⟩ := hW
  have hA : DataW.TrodAll enc Try.prog W 0 (fun _ => true) true Try.f6.params.toList args.toList ds p := hA0
  rw [paramsN5] at hA hval
  obtain ⟨v0, d0, rfl, rfl, h0⟩ := trodAll_one hA
  obtain ⟨A0, n0, c0, y0, rfl, l0, m0, r0⟩ := open_psl (en := encK) (by kernel_rfl) (by kernel_rfl) (by decide) (fun _ _ _ h => cells_encK h) (hval 0 _ v0 rfl rfl) h0
  refine (law_calls (LinkPlays_spec A0 n0 c0 y0 l0 (Nat.le_trans m0 (by decide))) (holds_psl (holds_nil W) r0)).mono ?_
  rintro _ W' ⟨v, L', rfl, ⟨rfl, rfl⟩, hb⟩
  exact ⟨_, rfl, post_law (tb := 4) hW' laidOutN5 rfl rfl (by kernel_rfl) (by kernel_rfl) (by rw [paramsN5]; intro t ht; simp at ht; rcases ht with rfl <;> exact ⟨by kernel_rfl, of_decide_eq_true (by kernel_rfl)⟩) hb⟩
set_option maxHeartbeats 4000000 in
theorem closedN5 : joinedFacts Try.prog 6 Try.f6 Rows.linkPlaysSpec Rows.linkPlaysRow = true := by
  unfold joinedFacts
  simp only [Bool.and_eq_true]
  repeat' apply And.intro
  all_goals (as_aux_lemma => kernel_rfl)
theorem namedN5 : Try.pinned.checked.prog.funcNamed Rows.linkPlaysRow.func = some 6 := by kernel_rfl
theorem instN5 : Try.f6.isInstance Try.prog Rows.linkPlaysRow.origin Rows.linkPlaysRow.targs := of_decide_eq_true (by kernel_rfl)
theorem LinkPlays_holds : Rows.LinkPlaysSaid :=
  OpenClaim.holds_of_wide 6 Try.f6 rfl rfl rfl rfl rfl rfl rfl ⟨rfl, rfl, rfl, rfl, rfl⟩ rfl rfl rfl rfl rfl namedN5 Try.func6 closedN5
    instN5 (by unfold Func.isWrapper; first | (rw [if_pos (by decide +kernel)]; kernel_rfl) | (rw [if_neg (by decide +kernel)]; exact ⟨rfl, rfl⟩))
    (fun os started H enc _ => LinkPlays_lifted os started H enc)
end Go.Proofs.Ytonjhakjnopbjaa
