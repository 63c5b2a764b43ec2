/- For every input of the types that it takes, 'LinkClones' answers true and leaves what was there as it was. -/
import Derived.Test.YtonjhakjnopbjaaRows
import Derived.Test.YtonjhakjnopbjaaZP1

set_option linter.unusedSimpArgs false
set_option linter.unusedVariables false
namespace Go.Proofs.Ytonjhakjnopbjaa
open Go Go.Sl Go.ChangeShapes Go.WideShapes Go.ChangeAt Go.RowKit

theorem ownN6 : ownKnob Try.prog.godebug = none := by kernel_rfl
theorem laidOutN6 : laidOutB Try.prog = true := by kernel_rfl
theorem paramsN6 : Try.f7.params = #[47, 47, 47] := by kernel_rfl
set_option maxRecDepth 100000 in
theorem LinkClones_lifted (os : Os) (started : os.Started) (H : Type) (enc : TypeId × Value → H) :
    ReturnsInHanded {} Try.checked os 7 .any (Rows.linkClonesSpec.pre6 enc Try.prog Try.f7 Rows.linkClonesRow.domain false) (Rows.linkClonesSpec.post enc Try.prog Try.f7 false true false false) := by
  refine returnsInHanded_of_change (C := Try.checked) ownN6 started (by kernel_rfl) Try.func7
    (ChangeSpec.witness6 (enc := enc) (C := Try.checked) false ⟨#[], #[.slice none 0 0, .slice none 0 0, .slice none 0 0], []⟩ 8 (by kernel_rfl) (by kernel_rfl) (by kernel_rfl) (by kernel_rfl)) ?_
  intro W base args ds gs before hval0 hW hcnd _
  have hval : ∀ (j : Nat) t v, Try.f7.params[j]? = some t → args[j]? = some v → Value.okWide Try.prog W .any base t v := hval0
  have hW' := hW
  obtain ⟨p, q, hA0, hV, rfl, hfz, hnd⟩ := hW
  have hA : DataW.TrodAll enc Try.prog W 0 (fun _ => true) true Try.f7.params.toList args.toList ds p := hA0
  rw [paramsN6] at hA hval
  obtain ⟨v0, v1, v2, d0, d1, d2, p0, p1, p2, rfl, rfl, rfl, h0, h1, h2⟩ := trodAll_three hA
  obtain ⟨A0, n0, c0, y0, rfl, l0, m0, r0⟩ := open_psl (en := encK) (by kernel_rfl) (by kernel_rfl) (by decide) (fun _ _ _ h => cells_encK h) (hval 0 _ v0 rfl rfl) h0
  obtain ⟨A1, n1, c1, y1, rfl, l1, m1, r1⟩ := open_psl (en := encK) (by kernel_rfl) (by kernel_rfl) (by decide) (fun _ _ _ h => cells_encK h) (hval 1 _ v1 rfl rfl) h1
  obtain ⟨A2, n2, c2, y2, rfl, l2, m2, r2⟩ := open_psl (en := encK) (by kernel_rfl) (by kernel_rfl) (by decide) (fun _ _ _ h => cells_encK h) (hval 2 _ v2 rfl rfl) h2
  refine (law_calls (LinkClones_spec A0 A1 A2 n0 c0 n1 c1 n2 c2 y0 y1 y2 l0 l1 l2 (Nat.le_trans m0 (by decide)) (Nat.le_trans m1 (by decide)) (Nat.le_trans m2 (by decide))) (holds_psl (holds_psl (holds_psl (holds_nil W) r2) r1) r0)).mono ?_
  rintro _ W' ⟨v, L', rfl, ⟨rfl, rfl⟩, hb⟩
  exact ⟨_, rfl, post_law (tb := 4) hW' laidOutN6 rfl rfl (by kernel_rfl) (by kernel_rfl) (by rw [paramsN6]; intro t ht; simp at ht; rcases ht with rfl | rfl | rfl <;> exact ⟨by kernel_rfl, of_decide_eq_true (by kernel_rfl)⟩) hb⟩
set_option maxHeartbeats 4000000 in
theorem closedN6 : joinedFacts Try.prog 7 Try.f7 Rows.linkClonesSpec Rows.linkClonesRow = true := by
  unfold joinedFacts
  simp only [Bool.and_eq_true]
  repeat' apply And.intro
  all_goals (as_aux_lemma => kernel_rfl)
theorem namedN6 : Try.pinned.checked.prog.funcNamed Rows.linkClonesRow.func = some 7 := by kernel_rfl
theorem instN6 : Try.f7.isInstance Try.prog Rows.linkClonesRow.origin Rows.linkClonesRow.targs := of_decide_eq_true (by kernel_rfl)
theorem LinkClones_holds : Rows.LinkClonesSaid :=
  OpenClaim.holds_of_wide 7 Try.f7 rfl rfl rfl rfl rfl rfl rfl ⟨rfl, rfl, rfl, rfl, rfl⟩ rfl rfl rfl rfl rfl namedN6 Try.func7 closedN6
    instN6 (by unfold Func.isWrapper; first | (rw [if_pos (by decide +kernel)]; kernel_rfl) | (rw [if_neg (by decide +kernel)]; exact ⟨rfl, rfl⟩))
    (fun os started H enc _ => LinkClones_lifted os started H enc)
end Go.Proofs.Ytonjhakjnopbjaa
