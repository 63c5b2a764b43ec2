/- For every input of the types that it takes, 'MemClones' answers true and leaves what was there as it was. -/
import Derived.Test.YtdpbjoldgiikkaaGreatRows
import Derived.Test.YtdpbjoldgiikkaaGreatZA6

set_option linter.unusedSimpArgs false
set_option linter.unusedVariables false
namespace Go.Proofs.YtdpbjoldgiikkaaGreat
open Go Go.Sl Go.ChangeShapes Go.WideShapes Go.ChangeAt Go.RowKit

theorem ownQ7 : ownKnob Tryz.prog.godebug = none := by kernel_rfl
theorem laidOutQ7 : laidOutB Tryz.prog = true := by kernel_rfl
theorem paramsQ7 : Tryz.f3.params = #[22, 22, 22] := by kernel_rfl
set_option maxRecDepth 100000 in
theorem MemClones_lifted (os : Os) (started : os.Started) (H : Type) (enc : TypeId × Value → H) :
    ReturnsInHanded {} Tryz.checked os 3 .any (Rows.memClonesSpec.pre6 enc Tryz.prog Tryz.f3 Rows.memClonesRow.domain false) (Rows.memClonesSpec.post enc Tryz.prog Tryz.f3 false true false false) := by
  refine returnsInHanded_of_change (C := Tryz.checked) ownQ7 started (by kernel_rfl) Tryz.func3
    (ChangeSpec.witness6 (enc := enc) (C := Tryz.checked) false ⟨#[], #[.slice none 0 0, .slice none 0 0, .slice none 0 0], []⟩ 8 (by kernel_rfl) (by kernel_rfl) (by kernel_rfl) (by kernel_rfl)) ?_
  intro W base args ds gs before hval0 hW hcnd _
  have hval : ∀ (j : Nat) t v, Tryz.f3.params[j]? = some t → args[j]? = some v → Value.okWide Tryz.prog W .any base t v := hval0
  have hW' := hW
  obtain ⟨p, q, hA0, hV, rfl, hfz, hnd⟩ := hW
  have hA : DataW.TrodAll enc Tryz.prog W 0 (fun _ => true) true Tryz.f3.params.toList args.toList ds p := hA0
  rw [paramsQ7] at hA hval
  obtain ⟨v0, v1, v2, d0, d1, d2, p0, p1, p2, rfl, rfl, rfl, h0, h1, h2⟩ := trodAll_three hA
  obtain ⟨A0, n0, c0, y0, rfl, l0, m0, r0⟩ := open_psl (en := encE) (by kernel_rfl) (by kernel_rfl) (by decide) (fun _ _ _ h => cells_encE h) (hval 0 _ v0 rfl rfl) h0
  obtain ⟨A1, n1, c1, y1, rfl, l1, m1, r1⟩ := open_psl (en := encE) (by kernel_rfl) (by kernel_rfl) (by decide) (fun _ _ _ h => cells_encE h) (hval 1 _ v1 rfl rfl) h1
  obtain ⟨A2, n2, c2, y2, rfl, l2, m2, r2⟩ := open_psl (en := encE) (by kernel_rfl) (by kernel_rfl) (by decide) (fun _ _ _ h => cells_encE h) (hval 2 _ v2 rfl rfl) h2
  refine (law_calls (MemClones_spec A0 n0 c0 y0 l0 (Nat.le_trans m0 (by decide)) A1 n1 c1 y1 l1 (Nat.le_trans m1 (by decide)) A2 n2 c2 y2 l2 (Nat.le_trans m2 (by decide))) (holds_psl (holds_psl (holds_psl (holds_nil W) r2) r1) r0)).mono ?_
  rintro _ W' ⟨v, L', rfl, ⟨rfl, rfl⟩, hb⟩
  exact ⟨_, rfl, post_law (tb := 4) hW' laidOutQ7 rfl rfl (by kernel_rfl) (by kernel_rfl) (by rw [paramsQ7]; intro t ht; simp at ht; rcases ht with rfl | rfl | rfl <;> exact ⟨by kernel_rfl, of_decide_eq_true (by kernel_rfl)⟩) hb⟩
set_option maxHeartbeats 4000000 in
theorem closedQ7 : joinedFacts Tryz.prog 3 Tryz.f3 Rows.memClonesSpec Rows.memClonesRow = true := by
  unfold joinedFacts
  simp only [Bool.and_eq_true]
  repeat' apply And.intro
  all_goals (as_aux_lemma => kernel_rfl)
theorem namedQ7 : Tryz.pinned.checked.prog.funcNamed Rows.memClonesRow.func = some 3 := by kernel_rfl
theorem instQ7 : Tryz.f3.isInstance Tryz.prog Rows.memClonesRow.origin Rows.memClonesRow.targs := of_decide_eq_true (by kernel_rfl)
theorem MemClones_holds : Rows.MemClonesSaid :=
  OpenClaim.holds_of_wide 3 Tryz.f3 rfl rfl rfl rfl rfl rfl rfl ⟨rfl, rfl, rfl, rfl, rfl⟩ rfl rfl rfl rfl rfl namedQ7 Tryz.func3 closedQ7
    instQ7 (by unfold Func.isWrapper; first | (rw [if_pos (by decide +kernel)]; kernel_rfl) | (rw [if_neg (by decide +kernel)]; exact ⟨rfl, rfl⟩))
    (fun os started H enc _ => MemClones_lifted os started H enc)
end Go.Proofs.YtdpbjoldgiikkaaGreat
