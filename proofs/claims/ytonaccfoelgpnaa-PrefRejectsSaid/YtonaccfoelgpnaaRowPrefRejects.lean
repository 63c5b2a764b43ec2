/- For every input of the types that it takes, 'PrefRejects' answers true and leaves what was there as it was. -/
import Derived.Test.YtonaccfoelgpnaaRows
import Derived.Test.YtonaccfoelgpnaaZAC5

set_option linter.unusedSimpArgs false
set_option linter.unusedVariables false
namespace Go.Proofs.Ytonaccfoelgpnaa
open Go Go.Sl Go.ChangeShapes Go.WideShapes Go.ChangeAt Go.RowKit

theorem ownZ6 : ownKnob Try.prog.godebug = none := by kernel_rfl
theorem laidOutZ6 : laidOutB Try.prog = true := by kernel_rfl
theorem paramsZ6 : Try.f8.params = #[61, 61, 3] := by kernel_rfl
set_option maxRecDepth 100000 in
theorem PrefRejects_lifted (os : Os) (started : os.Started) (H : Type) (enc : TypeId × Value → H) :
    ReturnsInHanded {} Try.checked os 8 .any (Rows.prefRejectsSpec.pre6 enc Try.prog Try.f8 Rows.prefRejectsRow.domain false) (Rows.prefRejectsSpec.post enc Try.prog Try.f8 false true false false) := by
  refine returnsInHanded_of_change (C := Try.checked) ownZ6 started (by kernel_rfl) Try.func8
    (ChangeSpec.witness6 (enc := enc) (C := Try.checked) false ⟨#[], #[.slice none 0 0, .slice none 0 0, .int .i64 0], []⟩ 8 (by kernel_rfl) (by kernel_rfl) (by kernel_rfl) (by kernel_rfl)) ?_
  intro W base args ds gs before hval0 hW hcnd _
  have hval : ∀ (j : Nat) t v, Try.f8.params[j]? = some t → args[j]? = some v → Value.okWide Try.prog W .any base t v := hval0
  have hW' := hW
  obtain ⟨p, q, hA0, hV, rfl, hfz, hnd⟩ := hW
  have hA : DataW.TrodAll enc Try.prog W 0 (fun _ => true) true Try.f8.params.toList args.toList ds p := hA0
  rw [paramsZ6] at hA hval
  obtain ⟨v0, v1, v2, d0, d1, d2, p0, p1, p2, rfl, rfl, rfl, h0, h1, h2⟩ := trodAll_three hA
  obtain ⟨A0, n0, c0, y0, rfl, l0, m0, r0⟩ := open_psl (en := encI) (by kernel_rfl) (by kernel_rfl) (by decide) (fun _ _ _ h => cells_encI h) (hval 0 _ v0 rfl rfl) h0
  obtain ⟨A1, n1, c1, y1, rfl, l1, m1, r1⟩ := open_psl (en := encI) (by kernel_rfl) (by kernel_rfl) (by decide) (fun _ _ _ h => cells_encI h) (hval 1 _ v1 rfl rfl) h1
  obtain ⟨x2, rfl, -, b2⟩ := open_int (k := .i64) (by kernel_rfl) (hval 2 _ v2 rfl rfl) h2
  refine (law_calls (PrefRejects_spec A0 n0 c0 y0 l0 (Nat.le_trans m0 (by decide)) A1 n1 c1 y1 l1 (Nat.le_trans m1 (by decide)) x2) (holds_psl (holds_psl (holds_nil W) r1) r0)).mono ?_
  rintro _ W' ⟨v, L', rfl, ⟨rfl, rfl⟩, hb⟩
  exact ⟨_, rfl, post_law (tb := 4) hW' laidOutZ6 rfl rfl (by kernel_rfl) (by kernel_rfl) (by rw [paramsZ6]; intro t ht; simp at ht; rcases ht with rfl | rfl | rfl <;> exact ⟨by kernel_rfl, of_decide_eq_true (by kernel_rfl)⟩) hb⟩
set_option maxHeartbeats 4000000 in
theorem closedZ6 : joinedFacts Try.prog 8 Try.f8 Rows.prefRejectsSpec Rows.prefRejectsRow = true := by
  unfold joinedFacts
  simp only [Bool.and_eq_true]
  repeat' apply And.intro
  all_goals (as_aux_lemma => kernel_rfl)
theorem namedZ6 : Try.pinned.checked.prog.funcNamed Rows.prefRejectsRow.func = some 8 := by kernel_rfl
theorem instZ6 : Try.f8.isInstance Try.prog Rows.prefRejectsRow.origin Rows.prefRejectsRow.targs := of_decide_eq_true (by kernel_rfl)
theorem PrefRejects_holds : Rows.PrefRejectsSaid :=
  OpenClaim.holds_of_wide 8 Try.f8 rfl rfl rfl rfl rfl rfl rfl ⟨rfl, rfl, rfl, rfl, rfl⟩ rfl rfl rfl rfl rfl namedZ6 Try.func8 closedZ6
    instZ6 (by unfold Func.isWrapper; first | (rw [if_pos (by decide +kernel)]; kernel_rfl) | (rw [if_neg (by decide +kernel)]; exact ⟨rfl, rfl⟩))
    (fun os started H enc _ => PrefRejects_lifted os started H enc)
end Go.Proofs.Ytonaccfoelgpnaa
