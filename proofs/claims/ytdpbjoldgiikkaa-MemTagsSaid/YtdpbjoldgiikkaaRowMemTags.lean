/- For every input of the types that it takes, 'MemTags' answers true and leaves what was there as it was. -/
import Derived.Test.YtdpbjoldgiikkaaRows
import Derived.Test.YtdpbjoldgiikkaaZT6

set_option linter.unusedSimpArgs false
set_option linter.unusedVariables false
namespace Go.Proofs.Ytdpbjoldgiikkaa
open Go Go.Sl Go.ChangeShapes Go.WideShapes Go.ChangeAt Go.RowKit

theorem ownQ6 : ownKnob Try.prog.godebug = none := by kernel_rfl
theorem laidOutQ6 : laidOutB Try.prog = true := by kernel_rfl
theorem paramsQ6 : Try.f6.params = #[48] := by kernel_rfl
set_option maxRecDepth 100000 in
theorem MemTags_lifted (os : Os) (started : os.Started) (H : Type) (enc : TypeId × Value → H) :
    ReturnsInHanded {} Try.checked os 6 .any (Rows.memTagsSpec.pre6 enc Try.prog Try.f6 Rows.memTagsRow.domain false) (Rows.memTagsSpec.post enc Try.prog Try.f6 false true false false) := by
  refine returnsInHanded_of_change (C := Try.checked) ownQ6 started (by kernel_rfl) Try.func6
    (ChangeSpec.witness6 (enc := enc) (C := Try.checked) false ⟨#[], #[.slice none 0 0], []⟩ 8 (by kernel_rfl) (by kernel_rfl) (by kernel_rfl) (by kernel_rfl)) ?_
  intro W base args ds gs before hval0 hW hcnd _
  have hval : ∀ (j : Nat) t v, Try.f6.params[j]? = some t → args[j]? = some v → Value.okWide Try.prog W .any base t v := hval0
  have hW' := hW
  obtain ⟨p, q, hA0, hV, rfl, hfz, hnd⟩ := hW
  have hA : DataW.TrodAll enc Try.prog W 0 (fun _ => true) true Try.f6.params.toList args.toList ds p := hA0
  rw [paramsQ6] at hA hval
  obtain ⟨v0, d0, rfl, rfl, h0⟩ := trodAll_one hA
  obtain ⟨A0, n0, c0, y0, rfl, l0, m0, r0, w0⟩ := open_rowsI (hval 0 _ v0 rfl rfl) h0
  refine (law_calls (MemTags_spec A0 n0 c0 y0 l0 (Nat.le_trans m0 (by decide)) (fun q hq => (w0 q hq).1)) (holds_psl (holds_rowsG (holds_nil W) fun q hq => (w0 q hq).2) r0)).mono ?_
  rintro _ W' ⟨v, L', rfl, ⟨rfl, rfl⟩, hb⟩
  exact ⟨_, rfl, post_law (tb := 4) hW' laidOutQ6 rfl rfl (by kernel_rfl) (by kernel_rfl) (by rw [paramsQ6]; intro t ht; simp at ht; rcases ht with rfl <;> exact ⟨by kernel_rfl, of_decide_eq_true (by kernel_rfl)⟩) hb⟩
set_option maxHeartbeats 4000000 in
theorem closedQ6 : joinedFacts Try.prog 6 Try.f6 Rows.memTagsSpec Rows.memTagsRow = true := by
  unfold joinedFacts
  simp only [Bool.and_eq_true]
  repeat' apply And.intro
  all_goals (as_aux_lemma => kernel_rfl)
theorem namedQ6 : Try.pinned.checked.prog.funcNamed Rows.memTagsRow.func = some 6 := by kernel_rfl
theorem instQ6 : Try.f6.isInstance Try.prog Rows.memTagsRow.origin Rows.memTagsRow.targs := of_decide_eq_true (by kernel_rfl)
theorem MemTags_holds : Rows.MemTagsSaid :=
  OpenClaim.holds_of_wide 6 Try.f6 rfl rfl rfl rfl rfl rfl rfl ⟨rfl, rfl, rfl, rfl, rfl⟩ rfl rfl rfl rfl rfl namedQ6 Try.func6 closedQ6
    instQ6 (by unfold Func.isWrapper; first | (rw [if_pos (by decide +kernel)]; kernel_rfl) | (rw [if_neg (by decide +kernel)]; exact ⟨rfl, rfl⟩))
    (fun os started H enc _ => MemTags_lifted os started H enc)
end Go.Proofs.Ytdpbjoldgiikkaa
