/- For every input of the types that it takes, 'LinkReached' answers true and leaves what was there as it was. -/
import Derived.Test.YtonjhakjnopbjaaRows
import Derived.Test.YtonjhakjnopbjaaZN3

set_option linter.unusedSimpArgs false
set_option linter.unusedVariables false
namespace Go.Proofs.Ytonjhakjnopbjaa
open Go Go.Sl Go.ChangeShapes Go.WideShapes Go.ChangeAt Go.RowKit

theorem ownN4 : ownKnob Try.prog.godebug = none := by kernel_rfl
theorem laidOutN4 : laidOutB Try.prog = true := by kernel_rfl
theorem paramsN4 : Try.f8.params = #[31, 22, 3] := by kernel_rfl
set_option maxRecDepth 100000 in
theorem LinkReached_lifted (os : Os) (started : os.Started) (H : Type) (enc : TypeId × Value → H) :
    ReturnsInHanded {} Try.checked os 8 .any (Rows.linkReachedSpec.pre6 enc Try.prog Try.f8 Rows.linkReachedRow.domain false) (Rows.linkReachedSpec.post enc Try.prog Try.f8 false true false false) := by
  refine returnsInHanded_of_change (C := Try.checked) ownN4 started (by kernel_rfl) Try.func8
    (ChangeSpec.witness6 (enc := enc) (C := Try.checked) false ⟨#[], #[SymD.val ⟨0, ByteArray.empty, 0⟩, .slice none 0 0, .int .i64 0], []⟩ 8 (by kernel_rfl) (by kernel_rfl) (by kernel_rfl) (by kernel_rfl)) ?_
  intro W base args ds gs before hval0 hW hcnd _
  have hval : ∀ (j : Nat) t v, Try.f8.params[j]? = some t → args[j]? = some v → Value.okWide Try.prog W .any base t v := hval0
  have hW' := hW
  obtain ⟨p, q, hA0, hV, rfl, hfz, hnd⟩ := hW
  have hA : DataW.TrodAll enc Try.prog W 0 (fun _ => true) true Try.f8.params.toList args.toList ds p := hA0
  rw [paramsN4] at hA hval
  obtain ⟨v0, v1, v2, d0, d1, d2, p0, p1, p2, rfl, rfl, rfl, h0, h1, h2⟩ := trodAll_three hA
  obtain ⟨x0, rfl⟩ := open_sym (hval 0 _ v0 rfl rfl) h0
  obtain ⟨A1, n1, c1, y1, rfl, l1, m1, r1⟩ := open_psl (en := encE) (by kernel_rfl) (by kernel_rfl) (by decide) (fun _ _ _ h => cells_encE h) (hval 1 _ v1 rfl rfl) h1
  obtain ⟨x2, rfl, -, b2⟩ := open_int (k := .i64) (by kernel_rfl) (hval 2 _ v2 rfl rfl) h2
  refine (law_calls (LinkReached_spec x0 A1 n1 c1 y1 l1 (Nat.le_trans m1 (by decide)) x2) (holds_psl (holds_nil W) r1)).mono ?_
  rintro _ W' ⟨v, L', rfl, ⟨rfl, rfl⟩, hb⟩
  exact ⟨_, rfl, post_law (tb := 4) hW' laidOutN4 rfl rfl (by kernel_rfl) (by kernel_rfl) (by rw [paramsN4]; intro t ht; simp at ht; rcases ht with rfl | rfl | rfl <;> exact ⟨by kernel_rfl, of_decide_eq_true (by kernel_rfl)⟩) hb⟩
set_option maxHeartbeats 4000000 in
theorem closedN4 : joinedFacts Try.prog 8 Try.f8 Rows.linkReachedSpec Rows.linkReachedRow = true := by
  unfold joinedFacts
  simp only [Bool.and_eq_true]
  repeat' apply And.intro
  all_goals (as_aux_lemma => kernel_rfl)
theorem namedN4 : Try.pinned.checked.prog.funcNamed Rows.linkReachedRow.func = some 8 := by kernel_rfl
theorem instN4 : Try.f8.isInstance Try.prog Rows.linkReachedRow.origin Rows.linkReachedRow.targs := of_decide_eq_true (by kernel_rfl)
theorem LinkReached_holds : Rows.LinkReachedSaid :=
  OpenClaim.holds_of_wide 8 Try.f8 rfl rfl rfl rfl rfl rfl rfl ⟨rfl, rfl, rfl, rfl, rfl⟩ rfl rfl rfl rfl rfl namedN4 Try.func8 closedN4
    instN4 (by unfold Func.isWrapper; first | (rw [if_pos (by decide +kernel)]; kernel_rfl) | (rw [if_neg (by decide +kernel)]; exact ⟨rfl, rfl⟩))
    (fun os started H enc _ => LinkReached_lifted os started H enc)
end Go.Proofs.Ytonjhakjnopbjaa
