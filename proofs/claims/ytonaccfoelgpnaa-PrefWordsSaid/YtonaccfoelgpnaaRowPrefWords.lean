/- For every input of the types that it takes, 'PrefWords' answers true and leaves what was there as it was. -/
import Derived.Test.YtonaccfoelgpnaaRows
import Derived.Test.YtonaccfoelgpnaaZAB6

set_option linter.unusedSimpArgs false
set_option linter.unusedVariables false
namespace Go.Proofs.Ytonaccfoelgpnaa
open Go Go.Sl Go.ChangeShapes Go.WideShapes Go.ChangeAt Go.RowKit

theorem ownZ4 : ownKnob Try.prog.godebug = none := by kernel_rfl
theorem laidOutZ4 : laidOutB Try.prog = true := by kernel_rfl
theorem paramsZ4 : Try.f6.params = #[47] := by kernel_rfl
set_option maxRecDepth 100000 in
theorem PrefWords_lifted (os : Os) (started : os.Started) (H : Type) (enc : TypeId × Value → H) :
    ReturnsInHanded {} Try.checked os 6 .any (Rows.prefWordsSpec.pre6 enc Try.prog Try.f6 Rows.prefWordsRow.domain false) (Rows.prefWordsSpec.post enc Try.prog Try.f6 false true false false) := by
  refine returnsInHanded_of_change (C := Try.checked) ownZ4 started (by kernel_rfl) Try.func6
    (ChangeSpec.witness6 (enc := enc) (C := Try.checked) false ⟨#[], #[PrefD.val ⟨⟨0, ByteArray.empty, 0⟩, ⟨0, ByteArray.empty, 0⟩, ⟨0, ByteArray.empty, 0⟩, ⟨0, ByteArray.empty, 0⟩, 0, false, 0, 0⟩], []⟩ 8 (by kernel_rfl) (by kernel_rfl) (by kernel_rfl) (by kernel_rfl)) ?_
  intro W base args ds gs before hval0 hW hcnd _
  have hval : ∀ (j : Nat) t v, Try.f6.params[j]? = some t → args[j]? = some v → Value.okWide Try.prog W .any base t v := hval0
  have hW' := hW
  obtain ⟨p, q, hA0, hV, rfl, hfz, hnd⟩ := hW
  have hA : DataW.TrodAll enc Try.prog W 0 (fun _ => true) true Try.f6.params.toList args.toList ds p := hA0
  rw [paramsZ4] at hA hval
  obtain ⟨v0, d0, rfl, rfl, h0⟩ := trodAll_one hA
  obtain ⟨x0, rfl⟩ := open_pref (hval 0 _ v0 rfl rfl) h0
  refine (law_calls (PrefWords_spec x0) (holds_nil W)).mono ?_
  rintro _ W' ⟨v, L', rfl, ⟨rfl, rfl⟩, hb⟩
  exact ⟨_, rfl, post_law (tb := 4) hW' laidOutZ4 rfl rfl (by kernel_rfl) (by kernel_rfl) (by rw [paramsZ4]; intro t ht; simp at ht; rcases ht with rfl <;> exact ⟨by kernel_rfl, of_decide_eq_true (by kernel_rfl)⟩) hb⟩
set_option maxHeartbeats 4000000 in
theorem closedZ4 : joinedFacts Try.prog 6 Try.f6 Rows.prefWordsSpec Rows.prefWordsRow = true := by
  unfold joinedFacts
  simp only [Bool.and_eq_true]
  repeat' apply And.intro
  all_goals (as_aux_lemma => kernel_rfl)
theorem namedZ4 : Try.pinned.checked.prog.funcNamed Rows.prefWordsRow.func = some 6 := by kernel_rfl
theorem instZ4 : Try.f6.isInstance Try.prog Rows.prefWordsRow.origin Rows.prefWordsRow.targs := of_decide_eq_true (by kernel_rfl)
theorem PrefWords_holds : Rows.PrefWordsSaid :=
  OpenClaim.holds_of_wide 6 Try.f6 rfl rfl rfl rfl rfl rfl rfl ⟨rfl, rfl, rfl, rfl, rfl⟩ rfl rfl rfl rfl rfl namedZ4 Try.func6 closedZ4
    instZ4 (by unfold Func.isWrapper; first | (rw [if_pos (by decide +kernel)]; kernel_rfl) | (rw [if_neg (by decide +kernel)]; exact ⟨rfl, rfl⟩))
    (fun os started H enc _ => PrefWords_lifted os started H enc)
end Go.Proofs.Ytonaccfoelgpnaa
