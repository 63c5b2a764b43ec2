/- For every input of the types that it takes, 'MemPlays' answers true and leaves what was there as it was. -/
import Derived.Test.YtdpbjoldgiikkaaRows
import Derived.Test.YtdpbjoldgiikkaaZA6

set_option linter.unusedSimpArgs false
set_option linter.unusedVariables false
namespace Go.Proofs.Ytdpbjoldgiikkaa
open Go Go.Sl Go.ChangeShapes Go.WideShapes Go.ChangeAt Go.RowKit

theorem ownQ3 : ownKnob Try.prog.godebug = none := by kernel_rfl
theorem laidOutQ3 : laidOutB Try.prog = true := by kernel_rfl
theorem paramsQ3 : Try.f7.params = #[3, 56] := by kernel_rfl
set_option maxRecDepth 100000 in
theorem MemPlays_lifted (os : Os) (started : os.Started) (H : Type) (enc : TypeId × Value → H) :
    ReturnsInHanded {} Try.checked os 7 .any (Rows.memPlaysSpec.pre6 enc Try.prog Try.f7 Rows.memPlaysRow.domain false) (Rows.memPlaysSpec.post enc Try.prog Try.f7 false true false false) := by
  refine returnsInHanded_of_change (C := Try.checked) ownQ3 started (by kernel_rfl) Try.func7
    (ChangeSpec.witness6 (enc := enc) (C := Try.checked) false ⟨#[], #[.int .i64 0, .slice none 0 0], []⟩ 8 (by kernel_rfl) (by kernel_rfl) (by kernel_rfl) (by kernel_rfl)) ?_
  intro W base args ds gs before hval0 hW hcnd _
  have hval : ∀ (j : Nat) t v, Try.f7.params[j]? = some t → args[j]? = some v → Value.okWide Try.prog W .any base t v := hval0
  have hW' := hW
  obtain ⟨p, q, hA0, hV, rfl, hfz, hnd⟩ := hW
  have hA : DataW.TrodAll enc Try.prog W 0 (fun _ => true) true Try.f7.params.toList args.toList ds p := hA0
  rw [paramsQ3] at hA hval
  obtain ⟨v0, v1, d0, d1, p0, p1, rfl, rfl, rfl, h0, h1⟩ := trodAll_two hA
  obtain ⟨x0, rfl, -, b0⟩ := open_int (k := .i64) (by kernel_rfl) (hval 0 _ v0 rfl rfl) h0
  obtain ⟨A1, n1, c1, y1, rfl, l1, m1, r1, w1⟩ := open_rowsE (hval 1 _ v1 rfl rfl) h1
  refine (law_calls (MemPlays_spec x0 A1 n1 c1 y1 l1 (Nat.le_trans m1 (by decide)) (fun q hq => (w1 q hq).1)) (holds_psl (holds_rowsG (holds_nil W) fun q hq => (w1 q hq).2) r1)).mono ?_
  rintro _ W' ⟨v, L', rfl, ⟨rfl, rfl⟩, hb⟩
  exact ⟨_, rfl, post_law (tb := 4) hW' laidOutQ3 rfl rfl (by kernel_rfl) (by kernel_rfl) (by rw [paramsQ3]; intro t ht; simp at ht; rcases ht with rfl | rfl <;> exact ⟨by kernel_rfl, of_decide_eq_true (by kernel_rfl)⟩) hb⟩
set_option maxHeartbeats 4000000 in
theorem closedQ3 : joinedFacts Try.prog 7 Try.f7 Rows.memPlaysSpec Rows.memPlaysRow = true := by
  unfold joinedFacts
  simp only [Bool.and_eq_true]
  repeat' apply And.intro
  all_goals (as_aux_lemma => kernel_rfl)
theorem namedQ3 : Try.pinned.checked.prog.funcNamed Rows.memPlaysRow.func = some 7 := by kernel_rfl
theorem instQ3 : Try.f7.isInstance Try.prog Rows.memPlaysRow.origin Rows.memPlaysRow.targs := of_decide_eq_true (by kernel_rfl)
theorem MemPlays_holds : Rows.MemPlaysSaid :=
  OpenClaim.holds_of_wide 7 Try.f7 rfl rfl rfl rfl rfl rfl rfl ⟨rfl, rfl, rfl, rfl, rfl⟩ rfl rfl rfl rfl rfl namedQ3 Try.func7 closedQ3
    instQ3 (by unfold Func.isWrapper; first | (rw [if_pos (by decide +kernel)]; kernel_rfl) | (rw [if_neg (by decide +kernel)]; exact ⟨rfl, rfl⟩))
    (fun os started H enc _ => MemPlays_lifted os started H enc)
end Go.Proofs.Ytdpbjoldgiikkaa
