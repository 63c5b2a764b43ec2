/- For every input of the types that it takes, 'PrefCauses' answers true and leaves what was there as it was. -/
import Derived.Test.YtonaccfoelgpnaaRows
import Derived.Test.YtonaccfoelgpnaaZAB6

set_option linter.unusedSimpArgs false
set_option linter.unusedVariables false
namespace Go.Proofs.Ytonaccfoelgpnaa
open Go Go.Sl Go.ChangeShapes Go.WideShapes Go.ChangeAt Go.RowKit

theorem ownZ3 : ownKnob Try.prog.godebug = none := by kernel_rfl
theorem laidOutZ3 : laidOutB Try.prog = true := by kernel_rfl
theorem paramsZ3 : Try.f5.params = #[22, 42, 3] := by kernel_rfl
set_option maxRecDepth 100000 in
theorem PrefCauses_lifted (os : Os) (started : os.Started) (H : Type) (enc : TypeId × Value → H) :
    ReturnsInHanded {} Try.checked os 5 .any (Rows.prefCausesSpec.pre6 enc Try.prog Try.f5 Rows.prefCausesRow.domain false) (Rows.prefCausesSpec.post enc Try.prog Try.f5 false true false false) := by
  refine returnsInHanded_of_change (C := Try.checked) ownZ3 started (by kernel_rfl) Try.func5
    (ChangeSpec.witness6 (enc := enc) (C := Try.checked) false ⟨#[], #[.slice none 0 0, ElemD.val ⟨⟨0, ByteArray.empty, 0⟩, ⟨0, ByteArray.empty, 0⟩, ⟨0, ByteArray.empty, 0⟩, false, false, 0⟩, .int .i64 0], []⟩ 8 (by kernel_rfl) (by kernel_rfl) (by kernel_rfl) (by kernel_rfl)) ?_
  intro W base args ds gs before hval0 hW hcnd _
  have hval : ∀ (j : Nat) t v, Try.f5.params[j]? = some t → args[j]? = some v → Value.okWide Try.prog W .any base t v := hval0
  have hW' := hW
  obtain ⟨p, q, hA0, hV, rfl, hfz, hnd⟩ := hW
  have hA : DataW.TrodAll enc Try.prog W 0 (fun _ => true) true Try.f5.params.toList args.toList ds p := hA0
  rw [paramsZ3] at hA hval
  obtain ⟨v0, v1, v2, d0, d1, d2, p0, p1, p2, rfl, rfl, rfl, h0, h1, h2⟩ := trodAll_three hA
  obtain ⟨A0, n0, c0, y0, rfl, l0, m0, r0⟩ := open_psl (en := encP) (by kernel_rfl) (by kernel_rfl) (by decide) (fun _ _ _ h => cells_encP h) (hval 0 _ v0 rfl rfl) h0
  have k0 := open_cap (e := 47) (by kernel_rfl) h0 _ _ _ rfl
  obtain ⟨x1, rfl⟩ := open_elem (hval 1 _ v1 rfl rfl) h1
  obtain ⟨x2, rfl, -, b2⟩ := open_int (k := .i64) (by kernel_rfl) (hval 2 _ v2 rfl rfl) h2
  refine (law_calls (PrefCauses_spec A0 n0 c0 y0 l0 (Nat.le_trans m0 (by decide)) k0 x1 x2) (holds_psl (holds_nil W) r0)).mono ?_
  rintro _ W' ⟨v, L', rfl, ⟨rfl, rfl⟩, hb⟩
  exact ⟨_, rfl, post_law (tb := 4) hW' laidOutZ3 rfl rfl (by kernel_rfl) (by kernel_rfl) (by rw [paramsZ3]; intro t ht; simp at ht; rcases ht with rfl | rfl | rfl <;> exact ⟨by kernel_rfl, of_decide_eq_true (by kernel_rfl)⟩) hb⟩
set_option maxHeartbeats 4000000 in
theorem closedZ3 : joinedFacts Try.prog 5 Try.f5 Rows.prefCausesSpec Rows.prefCausesRow = true := by
  unfold joinedFacts
  simp only [Bool.and_eq_true]
  repeat' apply And.intro
  all_goals (as_aux_lemma => kernel_rfl)
theorem namedZ3 : Try.pinned.checked.prog.funcNamed Rows.prefCausesRow.func = some 5 := by kernel_rfl
theorem instZ3 : Try.f5.isInstance Try.prog Rows.prefCausesRow.origin Rows.prefCausesRow.targs := of_decide_eq_true (by kernel_rfl)
theorem PrefCauses_holds : Rows.PrefCausesSaid :=
  OpenClaim.holds_of_wide 5 Try.f5 rfl rfl rfl rfl rfl rfl rfl ⟨rfl, rfl, rfl, rfl, rfl⟩ rfl rfl rfl rfl rfl namedZ3 Try.func5 closedZ3
    instZ3 (by unfold Func.isWrapper; first | (rw [if_pos (by decide +kernel)]; kernel_rfl) | (rw [if_neg (by decide +kernel)]; exact ⟨rfl, rfl⟩))
    (fun os started H enc _ => PrefCauses_lifted os started H enc)
end Go.Proofs.Ytonaccfoelgpnaa
