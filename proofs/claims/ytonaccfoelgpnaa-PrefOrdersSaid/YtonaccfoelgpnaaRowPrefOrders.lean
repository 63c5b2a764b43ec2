/- For every input of the types that it takes, 'PrefOrders' answers true and leaves what was there as it was. -/
import Derived.Test.YtonaccfoelgpnaaRows
import Derived.Test.YtonaccfoelgpnaaZAB6

set_option linter.unusedSimpArgs false
set_option linter.unusedVariables false
namespace Go.Proofs.Ytonaccfoelgpnaa
open Go Go.Sl Go.ChangeShapes Go.WideShapes Go.ChangeAt Go.RowKit

theorem ownZ5 : ownKnob Try.prog.godebug = none := by kernel_rfl
theorem laidOutZ5 : laidOutB Try.prog = true := by kernel_rfl
theorem paramsZ5 : Try.f7.params = #[22, 3] := by kernel_rfl
set_option maxRecDepth 100000 in
theorem PrefOrders_lifted (os : Os) (started : os.Started) (H : Type) (enc : TypeId × Value → H) :
    ReturnsInHanded {} Try.checked os 7 .any (Rows.prefOrdersSpec.pre6 enc Try.prog Try.f7 Rows.prefOrdersRow.domain false) (Rows.prefOrdersSpec.post enc Try.prog Try.f7 false true false false) := by
  refine returnsInHanded_of_change (C := Try.checked) ownZ5 started (by kernel_rfl) Try.func7
    (ChangeSpec.witness6 (enc := enc) (C := Try.checked) false ⟨#[], #[.slice none 0 0, .int .i64 0], []⟩ 8 (by kernel_rfl) (by kernel_rfl) (by kernel_rfl) (by kernel_rfl)) ?_
  intro W base args ds gs before hval0 hW hcnd _
  have hval : ∀ (j : Nat) t v, Try.f7.params[j]? = some t → args[j]? = some v → Value.okWide Try.prog W .any base t v := hval0
  have hW' := hW
  obtain ⟨p, q, hA0, hV, rfl, hfz, hnd⟩ := hW
  have hA : DataW.TrodAll enc Try.prog W 0 (fun _ => true) true Try.f7.params.toList args.toList ds p := hA0
  rw [paramsZ5] at hA hval
  obtain ⟨v0, v1, d0, d1, p0, p1, rfl, rfl, rfl, h0, h1⟩ := trodAll_two hA
  obtain ⟨A0, n0, c0, y0, rfl, l0, m0, r0⟩ := open_psl (en := encP) (by kernel_rfl) (by kernel_rfl) (by decide) (fun _ _ _ h => cells_encP h) (hval 0 _ v0 rfl rfl) h0
  obtain ⟨x1, rfl, -, b1⟩ := open_int (k := .i64) (by kernel_rfl) (hval 1 _ v1 rfl rfl) h1
  refine (law_calls (PrefOrders_spec A0 n0 c0 y0 l0 (Nat.le_trans m0 (by decide)) x1) (holds_psl (holds_nil W) r0)).mono ?_
  rintro _ W' ⟨v, L', rfl, ⟨rfl, rfl⟩, hb⟩
  exact ⟨_, rfl, post_law (tb := 4) hW' laidOutZ5 rfl rfl (by kernel_rfl) (by kernel_rfl) (by rw [paramsZ5]; intro t ht; simp at ht; rcases ht with rfl | rfl <;> exact ⟨by kernel_rfl, of_decide_eq_true (by kernel_rfl)⟩) hb⟩
set_option maxHeartbeats 4000000 in
theorem closedZ5 : joinedFacts Try.prog 7 Try.f7 Rows.prefOrdersSpec Rows.prefOrdersRow = true := by
  unfold joinedFacts
  simp only [Bool.and_eq_true]
  repeat' apply And.intro
  all_goals (as_aux_lemma => kernel_rfl)
theorem namedZ5 : Try.pinned.checked.prog.funcNamed Rows.prefOrdersRow.func = some 7 := by kernel_rfl
theorem instZ5 : Try.f7.isInstance Try.prog Rows.prefOrdersRow.origin Rows.prefOrdersRow.targs := of_decide_eq_true (by kernel_rfl)
theorem PrefOrders_holds : Rows.PrefOrdersSaid :=
  OpenClaim.holds_of_wide 7 Try.f7 rfl rfl rfl rfl rfl rfl rfl ⟨rfl, rfl, rfl, rfl, rfl⟩ rfl rfl rfl rfl rfl namedZ5 Try.func7 closedZ5
    instZ5 (by unfold Func.isWrapper; first | (rw [if_pos (by decide +kernel)]; kernel_rfl) | (rw [if_neg (by decide +kernel)]; exact ⟨rfl, rfl⟩))
    (fun os started H enc _ => PrefOrders_lifted os started H enc)
end Go.Proofs.Ytonaccfoelgpnaa
