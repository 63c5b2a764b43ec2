/- For every input of the types that it takes, 'MemWords' answers true and leaves what was there as it was. -/
import Derived.Test.YtdpbjoldgiikkaaRows
import Derived.Test.YtdpbjoldgiikkaaZA6

set_option linter.unusedSimpArgs false
set_option linter.unusedVariables false
namespace Go.Proofs.Ytdpbjoldgiikkaa
open Go Go.Sl Go.ChangeShapes Go.WideShapes Go.ChangeAt Go.RowKit

theorem ownQ1 : ownKnob Try.prog.godebug = none := by kernel_rfl
theorem laidOutQ1 : laidOutB Try.prog = true := by kernel_rfl
theorem paramsQ1 : Try.f3.params = #[25] := by kernel_rfl
set_option maxRecDepth 100000 in
theorem MemWords_lifted (os : Os) (started : os.Started) (H : Type) (enc : TypeId × Value → H) :
    ReturnsInHanded {} Try.checked os 3 .any (Rows.memWordsSpec.pre6 enc Try.prog Try.f3 Rows.memWordsRow.domain false) (Rows.memWordsSpec.post enc Try.prog Try.f3 false true false false) := by
  refine returnsInHanded_of_change (C := Try.checked) ownQ1 started (by kernel_rfl) Try.func3
    (ChangeSpec.witness6 (enc := enc) (C := Try.checked) false ⟨#[], #[ElemD.val ⟨⟨0, ByteArray.empty, 0⟩, ⟨0, ByteArray.empty, 0⟩, ⟨0, ByteArray.empty, 0⟩, false, false, 0⟩], []⟩ 8 (by kernel_rfl) (by kernel_rfl) (by kernel_rfl) (by kernel_rfl)) ?_
  intro W base args ds gs before hval0 hW hcnd _
  have hval : ∀ (j : Nat) t v, Try.f3.params[j]? = some t → args[j]? = some v → Value.okWide Try.prog W .any base t v := hval0
  have hW' := hW
  obtain ⟨p, q, hA0, hV, rfl, hfz, hnd⟩ := hW
  have hA : DataW.TrodAll enc Try.prog W 0 (fun _ => true) true Try.f3.params.toList args.toList ds p := hA0
  rw [paramsQ1] at hA hval
  obtain ⟨v0, d0, rfl, rfl, h0⟩ := trodAll_one hA
  obtain ⟨x0, rfl⟩ := open_elem (hval 0 _ v0 rfl rfl) h0
  refine (law_calls (MemWords_spec x0) (holds_nil W)).mono ?_
  rintro _ W' ⟨v, L', rfl, ⟨rfl, rfl⟩, hb⟩
  exact ⟨_, rfl, post_law (tb := 4) hW' laidOutQ1 rfl rfl (by kernel_rfl) (by kernel_rfl) (by rw [paramsQ1]; intro t ht; simp at ht; rcases ht with rfl <;> exact ⟨by kernel_rfl, of_decide_eq_true (by kernel_rfl)⟩) hb⟩
set_option maxHeartbeats 4000000 in
theorem closedQ1 : joinedFacts Try.prog 3 Try.f3 Rows.memWordsSpec Rows.memWordsRow = true := by
  unfold joinedFacts
  simp only [Bool.and_eq_true]
  repeat' apply And.intro
  all_goals (as_aux_lemma => kernel_rfl)
theorem namedQ1 : Try.pinned.checked.prog.funcNamed Rows.memWordsRow.func = some 3 := by kernel_rfl
theorem instQ1 : Try.f3.isInstance Try.prog Rows.memWordsRow.origin Rows.memWordsRow.targs := of_decide_eq_true (by kernel_rfl)
theorem MemWords_holds : Rows.MemWordsSaid :=
  OpenClaim.holds_of_wide 3 Try.f3 rfl rfl rfl rfl rfl rfl rfl ⟨rfl, rfl, rfl, rfl, rfl⟩ rfl rfl rfl rfl rfl namedQ1 Try.func3 closedQ1
    instQ1 (by unfold Func.isWrapper; first | (rw [if_pos (by decide +kernel)]; kernel_rfl) | (rw [if_neg (by decide +kernel)]; exact ⟨rfl, rfl⟩))
    (fun os started H enc _ => MemWords_lifted os started H enc)
end Go.Proofs.Ytdpbjoldgiikkaa
