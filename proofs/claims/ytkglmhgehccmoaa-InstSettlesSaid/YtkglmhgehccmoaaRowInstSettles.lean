/- For every input of the types that it takes, 'InstSettles' answers true and leaves what was there as it was. -/
import Derived.Test.YtkglmhgehccmoaaRows
import Derived.Test.YtkglmhgehccmoaaZD6

set_option linter.unusedSimpArgs false
set_option linter.unusedVariables false
namespace Go.Proofs.Ytkglmhgehccmoaa
open Go Go.Sl Go.ChangeShapes Go.WideShapes Go.ChangeAt Go.RowKit

theorem ownI5 : ownKnob Try.prog.godebug = none := by kernel_rfl
theorem laidOutI5 : laidOutB Try.prog = true := by kernel_rfl
theorem paramsI5 : Try.f6.params = #[41, 48, 22] := by kernel_rfl
set_option maxRecDepth 100000 in
theorem InstSettles_lifted (os : Os) (started : os.Started) (H : Type) (enc : TypeId × Value → H) :
    ReturnsInHanded {} Try.checked os 6 .any (Rows.instSettlesSpec.pre6 enc Try.prog Try.f6 Rows.instSettlesRow.domain false) (Rows.instSettlesSpec.post enc Try.prog Try.f6 false true false false) := by
  refine returnsInHanded_of_change (C := Try.checked) ownI5 started (by kernel_rfl) Try.func6
    (ChangeSpec.witness6 (enc := enc) (C := Try.checked) false ⟨#[], #[.slice none 0 0, .slice none 0 0, .slice none 0 0], []⟩ 8 (by kernel_rfl) (by kernel_rfl) (by kernel_rfl) (by kernel_rfl)) ?_
  intro W base args ds gs before hval0 hW hcnd _
  have hval : ∀ (j : Nat) t v, Try.f6.params[j]? = some t → args[j]? = some v → Value.okWide Try.prog W .any base t v := hval0
  have hW' := hW
  obtain ⟨p, q, hA0, hV, rfl, hfz, hnd⟩ := hW
  have hA : DataW.TrodAll enc Try.prog W 0 (fun _ => true) true Try.f6.params.toList args.toList ds p := hA0
  rw [paramsI5] at hA hval
  obtain ⟨v0, v1, v2, d0, d1, d2, p0, p1, p2, rfl, rfl, rfl, h0, h1, h2⟩ := trodAll_three hA
  obtain ⟨A0, n0, c0, y0, rfl, l0, m0, r0, w0⟩ := open_iacts (hval 0 _ v0 rfl rfl) h0
  obtain ⟨A1, n1, c1, y1, rfl, l1, m1, r1, w1⟩ := open_mats (hval 1 _ v1 rfl rfl) h1
  obtain ⟨A2, n2, c2, y2, rfl, l2, m2, r2⟩ := open_psl (en := encI) (by kernel_rfl) (by kernel_rfl) (by decide) (fun _ _ _ h => cells_encI h) (hval 2 _ v2 rfl rfl) h2
  refine (law_calls (InstSettles_spec A0 n0 c0 y0 l0 (Nat.le_trans m0 (by decide)) (fun q hq => (w0 q hq).1) A1 n1 c1 y1 l1 (Nat.le_trans m1 (by decide)) (fun q hq => (w1 q hq).1) A2 n2 c2 y2 l2 (Nat.le_trans m2 (by decide))) (holds_psl (holds_rowsG (holds_psl (holds_rowsG (holds_psl (holds_nil W) r2) fun q hq => by obtain ⟨z, hz, rfl⟩ := List.mem_map.1 hq; exact (w1 z hz).2) r1) fun q hq => (List.mem_append.1 hq).elim (fun hq => by obtain ⟨z, hz, rfl⟩ := List.mem_map.1 hq; exact (w0 z hz).2.1) (fun hq => by obtain ⟨z, hz, rfl⟩ := List.mem_map.1 hq; exact (w0 z hz).2.2)) r0)).mono ?_
  rintro _ W' ⟨v, L', rfl, ⟨rfl, rfl⟩, hb⟩
  exact ⟨_, rfl, post_law (tb := 4) hW' laidOutI5 rfl rfl (by kernel_rfl) (by kernel_rfl) (by rw [paramsI5]; intro t ht; simp at ht; rcases ht with rfl | rfl | rfl <;> exact ⟨by kernel_rfl, of_decide_eq_true (by kernel_rfl)⟩) hb⟩
set_option maxHeartbeats 4000000 in
theorem closedI5 : joinedFacts Try.prog 6 Try.f6 Rows.instSettlesSpec Rows.instSettlesRow = true := by
  unfold joinedFacts
  simp only [Bool.and_eq_true]
  repeat' apply And.intro
  all_goals (as_aux_lemma => kernel_rfl)
theorem namedI5 : Try.pinned.checked.prog.funcNamed Rows.instSettlesRow.func = some 6 := by kernel_rfl
theorem instI5 : Try.f6.isInstance Try.prog Rows.instSettlesRow.origin Rows.instSettlesRow.targs := of_decide_eq_true (by kernel_rfl)
theorem InstSettles_holds : Rows.InstSettlesSaid :=
  OpenClaim.holds_of_wide 6 Try.f6 rfl rfl rfl rfl rfl rfl rfl ⟨rfl, rfl, rfl, rfl, rfl⟩ rfl rfl rfl rfl rfl namedI5 Try.func6 closedI5
    instI5 (by unfold Func.isWrapper; first | (rw [if_pos (by decide +kernel)]; kernel_rfl) | (rw [if_neg (by decide +kernel)]; exact ⟨rfl, rfl⟩))
    (fun os started H enc _ => InstSettles_lifted os started H enc)
end Go.Proofs.Ytkglmhgehccmoaa
