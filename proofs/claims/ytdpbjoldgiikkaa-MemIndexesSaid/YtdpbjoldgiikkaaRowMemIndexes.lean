/- For every input of the types that it takes, 'MemIndexes' answers true and leaves what was there as it was. -/
import Derived.Test.YtdpbjoldgiikkaaRows
import Derived.Test.YtdpbjoldgiikkaaZA7

set_option linter.unusedSimpArgs false
set_option linter.unusedVariables false
namespace Go.Proofs.Ytdpbjoldgiikkaa
open Go Go.Sl Go.ChangeShapes Go.WideShapes Go.ChangeAt Go.RowKit

section
variable {H : Type} {enc : TypeId × Value → H} {P : Program} {w : World} {base : Nat} {spare : Nat → Bool} {held : Bool}
theorem trodAll_five {t0 t1 t2 t3 t4 : TypeId} {args : Array Value} {ds : List (DataW H)} {ps : List MemPlace} (h : DataW.TrodAll enc P w base spare held [t0, t1, t2, t3, t4] args.toList ds ps) :
    ∃ v0 v1 v2 v3 v4 d0 d1 d2 d3 d4 p0 p1 p2 p3 p4, args = #[v0, v1, v2, v3, v4] ∧ ds = [d0, d1, d2, d3, d4] ∧ ps = p0 ++ p1 ++ p2 ++ p3 ++ p4 ∧ DataW.Trod enc P w base spare held t0 v0 d0 p0 ∧ DataW.Trod enc P w base spare held t1 v1 d1 p1 ∧ DataW.Trod enc P w base spare held t2 v2 d2 p2 ∧ DataW.Trod enc P w base spare held t3 v3 d3 p3 ∧ DataW.Trod enc P w base spare held t4 v4 d4 p4 := by
  obtain ⟨v0, vs0, d0, ds0, p0, q0, hargs, rfl, rfl, h0, hr0⟩ := trodAll_cons h
  obtain ⟨v1, vs1, d1, ds1, p1, q1, rfl, rfl, rfl, h1, hr1⟩ := trodAll_cons hr0
  obtain ⟨v2, vs2, d2, ds2, p2, q2, rfl, rfl, rfl, h2, hr2⟩ := trodAll_cons hr1
  obtain ⟨v3, vs3, d3, ds3, p3, q3, rfl, rfl, rfl, h3, hr3⟩ := trodAll_cons hr2
  obtain ⟨v4, vs4, d4, ds4, p4, q4, rfl, rfl, rfl, h4, hr4⟩ := trodAll_cons hr3
  obtain ⟨rfl, rfl, rfl⟩ := trodAll_nil hr4
  exact ⟨v0, v1, v2, v3, v4, d0, d1, d2, d3, d4, p0, p1, p2, p3, p4, by cases args; simp_all, rfl, by simp, h0, h1, h2, h3, h4⟩
end
theorem ownQ5 : ownKnob Try.prog.godebug = none := by kernel_rfl
theorem laidOutQ5 : laidOutB Try.prog = true := by kernel_rfl
theorem paramsQ5 : Try.f8.params = #[27, 23, 23, 25, 3] := by kernel_rfl
set_option maxRecDepth 100000 in
theorem MemIndexes_lifted (os : Os) (started : os.Started) (H : Type) (enc : TypeId × Value → H) :
    ReturnsInHanded {} Try.checked os 8 .any (Rows.memIndexesSpec.pre6 enc Try.prog Try.f8 Rows.memIndexesRow.domain false) (Rows.memIndexesSpec.post enc Try.prog Try.f8 false true false false) := by
  refine returnsInHanded_of_change (C := Try.checked) ownQ5 started (by kernel_rfl) Try.func8
    (ChangeSpec.witness6 (enc := enc) (C := Try.checked) false ⟨#[], #[.slice none 0 0, SymD.val ⟨0, ByteArray.empty, 0⟩, SymD.val ⟨0, ByteArray.empty, 0⟩, ElemD.val ⟨⟨0, ByteArray.empty, 0⟩, ⟨0, ByteArray.empty, 0⟩, ⟨0, ByteArray.empty, 0⟩, false, false, 0⟩, .int .i64 0], []⟩ 8 (by kernel_rfl) (by kernel_rfl) (by kernel_rfl) (by kernel_rfl)) ?_
  intro W base args ds gs before hval0 hW hcnd _
  have hval : ∀ (j : Nat) t v, Try.f8.params[j]? = some t → args[j]? = some v → Value.okWide Try.prog W .any base t v := hval0
  have hW' := hW
  obtain ⟨p, q, hA0, hV, rfl, hfz, hnd⟩ := hW
  have hA : DataW.TrodAll enc Try.prog W 0 (fun _ => true) true Try.f8.params.toList args.toList ds p := hA0
  rw [paramsQ5] at hA hval
  obtain ⟨v0, v1, v2, v3, v4, d0, d1, d2, d3, d4, p0, p1, p2, p3, p4, rfl, rfl, rfl, h0, h1, h2, h3, h4⟩ := trodAll_five hA
  obtain ⟨A0, n0, c0, y0, rfl, l0, m0, r0⟩ := open_psl (en := encE) (by kernel_rfl) (by kernel_rfl) (by decide) (fun _ _ _ h => cells_encE h) (hval 0 _ v0 rfl rfl) h0
  obtain ⟨x1, rfl⟩ := open_sym (hval 1 _ v1 rfl rfl) h1
  obtain ⟨x2, rfl⟩ := open_sym (hval 2 _ v2 rfl rfl) h2
  obtain ⟨x3, rfl⟩ := open_elem (hval 3 _ v3 rfl rfl) h3
  obtain ⟨x4, rfl, -, b4⟩ := open_int (k := .i64) (by kernel_rfl) (hval 4 _ v4 rfl rfl) h4
  refine (law_calls (MemIndexes_spec A0 n0 c0 y0 l0 (Nat.le_trans m0 (by decide)) x1 x2 x3 x4) (holds_psl (holds_nil W) r0)).mono ?_
  rintro _ W' ⟨v, L', rfl, ⟨rfl, rfl⟩, hb⟩
  exact ⟨_, rfl, post_law (tb := 4) hW' laidOutQ5 rfl rfl (by kernel_rfl) (by kernel_rfl) (by rw [paramsQ5]; intro t ht; simp at ht; rcases ht with rfl | rfl | rfl | rfl | rfl <;> exact ⟨by kernel_rfl, of_decide_eq_true (by kernel_rfl)⟩) hb⟩
set_option maxHeartbeats 4000000 in
theorem closedQ5 : joinedFacts Try.prog 8 Try.f8 Rows.memIndexesSpec Rows.memIndexesRow = true := by
  unfold joinedFacts
  simp only [Bool.and_eq_true]
  repeat' apply And.intro
  all_goals (as_aux_lemma => kernel_rfl)
theorem namedQ5 : Try.pinned.checked.prog.funcNamed Rows.memIndexesRow.func = some 8 := by kernel_rfl
theorem instQ5 : Try.f8.isInstance Try.prog Rows.memIndexesRow.origin Rows.memIndexesRow.targs := of_decide_eq_true (by kernel_rfl)
theorem MemIndexes_holds : Rows.MemIndexesSaid :=
  OpenClaim.holds_of_wide 8 Try.f8 rfl rfl rfl rfl rfl rfl rfl ⟨rfl, rfl, rfl, rfl, rfl⟩ rfl rfl rfl rfl rfl namedQ5 Try.func8 closedQ5
    instQ5 (by unfold Func.isWrapper; first | (rw [if_pos (by decide +kernel)]; kernel_rfl) | (rw [if_neg (by decide +kernel)]; exact ⟨rfl, rfl⟩))
    (fun os started H enc _ => MemIndexes_lifted os started H enc)
end Go.Proofs.Ytdpbjoldgiikkaa
