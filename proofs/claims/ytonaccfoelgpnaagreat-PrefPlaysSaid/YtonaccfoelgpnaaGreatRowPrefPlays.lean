/- For every input of the types that it takes, 'PrefPlays' answers true and leaves what was there as it was. -/
import Derived.Test.YtonaccfoelgpnaaGreatRows
import Derived.Test.YtonaccfoelgpnaaGreatZAZ7

set_option linter.unusedSimpArgs false
set_option linter.unusedVariables false
namespace Go.Proofs.YtonaccfoelgpnaaGreat
open Go Go.Sl Go.ChangeShapes Go.WideShapes Go.ChangeAt Go.RowKit

theorem ownZ7 : ownKnob Tryz.prog.godebug = none := by kernel_rfl
theorem laidOutZ7 : laidOutB Tryz.prog = true := by kernel_rfl
theorem paramsZ7 : Tryz.f3.params = #[3, 22] := by kernel_rfl
set_option maxRecDepth 100000 in
theorem PrefPlays_lifted (os : Os) (started : os.Started) (H : Type) (enc : TypeId × Value → H) :
    ReturnsInHanded {} Tryz.checked os 3 .any (Rows.prefPlaysSpec.pre6 enc Tryz.prog Tryz.f3 Rows.prefPlaysRow.domain false) (Rows.prefPlaysSpec.post enc Tryz.prog Tryz.f3 false true false false) := by
  refine returnsInHanded_of_change (C := Tryz.checked) ownZ7 started (by kernel_rfl) Tryz.func3
    (ChangeSpec.witness6 (enc := enc) (C := Tryz.checked) false ⟨#[], #[.int .i64 0, .slice none 0 0], []⟩ 8 (by kernel_rfl) (by kernel_rfl) (by kernel_rfl) (by kernel_rfl)) ?_
  intro W base args ds gs before hval0 hW hcnd _
  have hval : ∀ (j : Nat) t v, Tryz.f3.params[j]? = some t → args[j]? = some v → Value.okWide Tryz.prog W .any base t v := hval0
  have hW' := hW
  obtain ⟨p, q, hA0, hV, rfl, hfz, hnd⟩ := hW
  have hA : DataW.TrodAll enc Tryz.prog W 0 (fun _ => true) true Tryz.f3.params.toList args.toList ds p := hA0
  rw [paramsZ7] at hA hval
  obtain ⟨v0, v1, d0, d1, p0, p1, rfl, rfl, rfl, h0, h1⟩ := trodAll_two hA
  obtain ⟨x0, rfl, -, b0⟩ := open_int (k := .i64) (by kernel_rfl) (hval 0 _ v0 rfl rfl) h0
  obtain ⟨A1, n1, c1, y1, rfl, l1, m1, r1, w1⟩ := open_pacts (hval 1 _ v1 rfl rfl) h1
  refine (law_calls (PrefPlays_spec x0 A1 n1 c1 y1 l1 (Nat.le_trans m1 (by decide)) (fun q hq => (w1 q hq).1)) (holds_psl (holds_rowsG (holds_rowsG (holds_nil W) fun q hq => by obtain ⟨z, hz, rfl⟩ := List.mem_map.1 hq; exact (w1 z hz).2.2) fun q hq => by obtain ⟨z, hz, rfl⟩ := List.mem_map.1 hq; exact (w1 z hz).2.1) r1)).mono ?_
  rintro _ W' ⟨v, L', rfl, ⟨rfl, rfl⟩, hb⟩
  exact ⟨_, rfl, post_law (tb := 4) hW' laidOutZ7 rfl rfl (by kernel_rfl) (by kernel_rfl) (by rw [paramsZ7]; intro t ht; simp at ht; rcases ht with rfl | rfl <;> exact ⟨by kernel_rfl, of_decide_eq_true (by kernel_rfl)⟩) hb⟩
set_option maxHeartbeats 4000000 in
theorem closedZ7 : joinedFacts Tryz.prog 3 Tryz.f3 Rows.prefPlaysSpec Rows.prefPlaysRow = true := by
  unfold joinedFacts
  simp only [Bool.and_eq_true]
  repeat' apply And.intro
  all_goals (as_aux_lemma => kernel_rfl)
theorem namedZ7 : Tryz.pinned.checked.prog.funcNamed Rows.prefPlaysRow.func = some 3 := by kernel_rfl
theorem instZ7 : Tryz.f3.isInstance Tryz.prog Rows.prefPlaysRow.origin Rows.prefPlaysRow.targs := of_decide_eq_true (by kernel_rfl)
theorem PrefPlays_holds : Rows.PrefPlaysSaid :=
  OpenClaim.holds_of_wide 3 Tryz.f3 rfl rfl rfl rfl rfl rfl rfl ⟨rfl, rfl, rfl, rfl, rfl⟩ rfl rfl rfl rfl rfl namedZ7 Tryz.func3 closedZ7
    instZ7 (by unfold Func.isWrapper; first | (rw [if_pos (by decide +kernel)]; kernel_rfl) | (rw [if_neg (by decide +kernel)]; exact ⟨rfl, rfl⟩))
    (fun os started H enc _ => PrefPlays_lifted os started H enc)
end Go.Proofs.YtonaccfoelgpnaaGreat
