/- For every input of the types that it takes, 'DepsOrders' answers true and leaves what was there as it was. -/
import Derived.Test.YteokgobeafnpoaaRows
import Derived.Test.YteokgobeafnpoaaZA5

set_option linter.unusedSimpArgs false
set_option linter.unusedVariables false
namespace Go.Proofs.Yteokgobeafnpoaa
open Go Go.Sl Go.ChangeShapes Go.WideShapes Go.ChangeAt Go.RowKit

theorem ownY3 : ownKnob Try.prog.godebug = none := by kernel_rfl
theorem laidOutY3 : laidOutB Try.prog = true := by kernel_rfl
theorem paramsY3 : Try.f5.params = #[22, 3] := by kernel_rfl
set_option maxRecDepth 100000 in
theorem DepsOrders_lifted (os : Os) (started : os.Started) (H : Type) (enc : TypeId × Value → H) :
    ReturnsInHanded {} Try.checked os 5 .any (Rows.depsOrdersSpec.pre6 enc Try.prog Try.f5 Rows.depsOrdersRow.domain false) (Rows.depsOrdersSpec.post enc Try.prog Try.f5 false true false false) := by
  refine returnsInHanded_of_change (C := Try.checked) ownY3 started (by kernel_rfl) Try.func5
    (ChangeSpec.witness6 (enc := enc) (C := Try.checked) false ⟨#[], #[.slice none 0 0, .int .i64 0], []⟩ 8 (by kernel_rfl) (by kernel_rfl) (by kernel_rfl) (by kernel_rfl)) ?_
  intro W base args ds gs before hval0 hW hcnd _
  have hval : ∀ (j : Nat) t v, Try.f5.params[j]? = some t → args[j]? = some v → Value.okWide Try.prog W .any base t v := hval0
  have hW' := hW
  obtain ⟨p, q, hA0, hV, rfl, hfz, hnd⟩ := hW
  have hA : DataW.TrodAll enc Try.prog W 0 (fun _ => true) true Try.f5.params.toList args.toList ds p := hA0
  rw [paramsY3] at hA hval
  obtain ⟨v0, v1, d0, d1, p0, p1, rfl, rfl, rfl, h0, h1⟩ := trodAll_two hA
  obtain ⟨A0, n0, c0, y0, rfl, l0, m0, r0, w0⟩ := open_dacts (hval 0 _ v0 rfl rfl) h0
  obtain ⟨x1, rfl, -, b1⟩ := open_int (k := .i64) (by kernel_rfl) (hval 1 _ v1 rfl rfl) h1
  refine (law_calls (DepsOrders_spec A0 n0 c0 y0 l0 (Nat.le_trans m0 (by decide)) (fun q hq => (w0 q hq).1) (fun q hq => (w0 q hq).2.1) x1) (holds_psl (holds_rowsG (holds_nil W) fun q hq => by obtain ⟨z, hz, rfl⟩ := List.mem_map.1 hq; exact (w0 z hz).2.2) r0)).mono ?_
  rintro _ W' ⟨v, L', rfl, ⟨rfl, rfl⟩, hb⟩
  exact ⟨_, rfl, post_law (tb := 4) hW' laidOutY3 rfl rfl (by kernel_rfl) (by kernel_rfl) (by rw [paramsY3]; intro t ht; simp at ht; rcases ht with rfl | rfl <;> exact ⟨by kernel_rfl, of_decide_eq_true (by kernel_rfl)⟩) hb⟩
set_option maxHeartbeats 4000000 in
theorem closedY3 : joinedFacts Try.prog 5 Try.f5 Rows.depsOrdersSpec Rows.depsOrdersRow = true := by
  unfold joinedFacts
  simp only [Bool.and_eq_true]
  repeat' apply And.intro
  all_goals (as_aux_lemma => kernel_rfl)
theorem namedY3 : Try.pinned.checked.prog.funcNamed Rows.depsOrdersRow.func = some 5 := by kernel_rfl
theorem instY3 : Try.f5.isInstance Try.prog Rows.depsOrdersRow.origin Rows.depsOrdersRow.targs := of_decide_eq_true (by kernel_rfl)
theorem DepsOrders_holds : Rows.DepsOrdersSaid :=
  OpenClaim.holds_of_wide 5 Try.f5 rfl rfl rfl rfl rfl rfl rfl ⟨rfl, rfl, rfl, rfl, rfl⟩ rfl rfl rfl rfl rfl namedY3 Try.func5 closedY3
    instY3 (by unfold Func.isWrapper; first | (rw [if_pos (by decide +kernel)]; kernel_rfl) | (rw [if_neg (by decide +kernel)]; exact ⟨rfl, rfl⟩))
    (fun os started H enc _ => DepsOrders_lifted os started H enc)
end Go.Proofs.Yteokgobeafnpoaa
