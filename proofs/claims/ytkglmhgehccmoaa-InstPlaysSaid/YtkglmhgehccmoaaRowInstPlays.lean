/- For every input of the types that it takes, 'InstPlays' answers true and leaves what was there as it was. -/
import Derived.Test.YtkglmhgehccmoaaRows
import Derived.Test.YtkglmhgehccmoaaZB5

set_option linter.unusedSimpArgs false
set_option linter.unusedVariables false
namespace Go.Proofs.Ytkglmhgehccmoaa
open Go Go.Sl Go.ChangeShapes Go.WideShapes Go.ChangeAt Go.RowKit

theorem ownI2 : ownKnob Try.prog.godebug = none := by kernel_rfl
theorem laidOutI2 : laidOutB Try.prog = true := by kernel_rfl
theorem paramsI2 : Try.f4.params = #[3, 41] := by kernel_rfl
set_option maxRecDepth 100000 in
theorem InstPlays_lifted (os : Os) (started : os.Started) (H : Type) (enc : TypeId × Value → H) :
    ReturnsInHanded {} Try.checked os 4 .any (Rows.instPlaysSpec.pre6 enc Try.prog Try.f4 Rows.instPlaysRow.domain false) (Rows.instPlaysSpec.post enc Try.prog Try.f4 false true false false) := by
  refine returnsInHanded_of_change (C := Try.checked) ownI2 started (by kernel_rfl) Try.func4
    (ChangeSpec.witness6 (enc := enc) (C := Try.checked) false ⟨#[], #[.int .i64 0, .slice none 0 0], []⟩ 8 (by kernel_rfl) (by kernel_rfl) (by kernel_rfl) (by kernel_rfl)) ?_
  intro W base args ds gs before hval0 hW hcnd _
  have hval : ∀ (j : Nat) t v, Try.f4.params[j]? = some t → args[j]? = some v → Value.okWide Try.prog W .any base t v := hval0
  have hW' := hW
  obtain ⟨p, q, hA0, hV, rfl, hfz, hnd⟩ := hW
  have hA : DataW.TrodAll enc Try.prog W 0 (fun _ => true) true Try.f4.params.toList args.toList ds p := hA0
  rw [paramsI2] at hA hval
  obtain ⟨v0, v1, d0, d1, p0, p1, rfl, rfl, rfl, h0, h1⟩ := trodAll_two hA
  obtain ⟨x0, rfl, -, b0⟩ := open_int (k := .i64) (by kernel_rfl) (hval 0 _ v0 rfl rfl) h0
  obtain ⟨A1, n1, c1, y1, rfl, l1, m1, r1, w1⟩ := open_iacts (hval 1 _ v1 rfl rfl) h1
  refine (law_calls (InstPlays_spec x0 A1 n1 c1 y1 l1 (Nat.le_trans m1 (by decide)) (fun q hq => (w1 q hq).1)) (holds_psl (holds_rowsG (holds_nil W) fun q hq => (List.mem_append.1 hq).elim (fun hq => by obtain ⟨z, hz, rfl⟩ := List.mem_map.1 hq; exact (w1 z hz).2.1) (fun hq => by obtain ⟨z, hz, rfl⟩ := List.mem_map.1 hq; exact (w1 z hz).2.2)) r1)).mono ?_
  rintro _ W' ⟨v, L', rfl, ⟨rfl, rfl⟩, hb⟩
  exact ⟨_, rfl, post_law (tb := 4) hW' laidOutI2 rfl rfl (by kernel_rfl) (by kernel_rfl) (by rw [paramsI2]; intro t ht; simp at ht; rcases ht with rfl | rfl <;> exact ⟨by kernel_rfl, of_decide_eq_true (by kernel_rfl)⟩) hb⟩
set_option maxHeartbeats 4000000 in
theorem closedI2 : joinedFacts Try.prog 4 Try.f4 Rows.instPlaysSpec Rows.instPlaysRow = true := by
  unfold joinedFacts
  simp only [Bool.and_eq_true]
  repeat' apply And.intro
  all_goals (as_aux_lemma => kernel_rfl)
theorem namedI2 : Try.pinned.checked.prog.funcNamed Rows.instPlaysRow.func = some 4 := by kernel_rfl
theorem instI2 : Try.f4.isInstance Try.prog Rows.instPlaysRow.origin Rows.instPlaysRow.targs := of_decide_eq_true (by kernel_rfl)
theorem InstPlays_holds : Rows.InstPlaysSaid :=
  OpenClaim.holds_of_wide 4 Try.f4 rfl rfl rfl rfl rfl rfl rfl ⟨rfl, rfl, rfl, rfl, rfl⟩ rfl rfl rfl rfl rfl namedI2 Try.func4 closedI2
    instI2 (by unfold Func.isWrapper; first | (rw [if_pos (by decide +kernel)]; kernel_rfl) | (rw [if_neg (by decide +kernel)]; exact ⟨rfl, rfl⟩))
    (fun os started H enc _ => InstPlays_lifted os started H enc)
end Go.Proofs.Ytkglmhgehccmoaa
