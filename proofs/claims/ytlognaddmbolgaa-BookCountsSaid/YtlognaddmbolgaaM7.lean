/- For every input of the types that it takes, 'BookCounts' answers true and leaves what was there as it was. -/
import Derived.Test.YtlognaddmbolgaaRows
import Derived.Test.YtlognaddmbolgaaWS
import Derived.Test.YtlognaddmbolgaaK6
namespace Go.Proofs.Ytlognaddmbolgaa
open Go Go.Sl Go.ChangeShapes Go.WideShapes Go.ChangeAt Go.RowKit

theorem ownM7 : ownKnob Try.prog.godebug = none := by kernel_rfl
theorem laidOutM7 : laidOutB Try.prog = true := by kernel_rfl
theorem paramsM7 : Try.f7.params = #[35] := by kernel_rfl
set_option maxRecDepth 100000 in
theorem BookCounts_lifted (os : Os) (started : os.Started) (H : Type) (enc : TypeId × Value → H) :
    ReturnsInHanded {} Try.checked os 7 .any (Rows.bookCountsSpec.pre6 enc Try.prog Try.f7 Rows.bookCountsRow.domain false) (Rows.bookCountsSpec.post enc Try.prog Try.f7 false true false false) := by
  refine returnsInHanded_of_change (C := Try.checked) ownM7 started (by kernel_rfl) Try.func7
    (ChangeSpec.witness6 (enc := enc) (C := Try.checked) false ⟨#[], #[.slice none 0 0], []⟩ 8 (by kernel_rfl) (by kernel_rfl) (by kernel_rfl) (by kernel_rfl)) ?_
  intro W base args ds gs before hval0 hW hcnd _
  have hval : ∀ (j : Nat) t v, Try.f7.params[j]? = some t → args[j]? = some v → Value.okWide Try.prog W .any base t v := hval0
  have hW' := hW
  obtain ⟨p, q, hA0, hV, rfl, hfz, hnd⟩ := hW
  have hA : DataW.TrodAll enc Try.prog W 0 (fun _ => true) true Try.f7.params.toList args.toList ds p := hA0
  rw [paramsM7] at hA hval
  obtain ⟨v0, d0, rfl, rfl, h0⟩ := trodAll_one hA
  obtain ⟨A0, n0, c0, y0, rfl, l0, m0, r0⟩ := open_psl (en := encS) (by kernel_rfl) (by kernel_rfl) (by decide) (fun _ _ _ h => cells_encS h) (hval 0 _ v0 rfl rfl) h0
  refine (law_calls (BookCounts_spec A0 n0 c0 y0 l0 (Nat.le_trans m0 (by decide))) (holds_psl (holds_nil W) r0)).mono ?_
  rintro _ W' ⟨v, L', rfl, ⟨rfl, rfl⟩, hb⟩
  exact ⟨_, rfl, post_law (tb := 4) hW' laidOutM7 rfl rfl (by kernel_rfl) (by kernel_rfl) (by rw [paramsM7]; intro t ht; simp at ht; rcases ht with rfl <;> exact ⟨by kernel_rfl, of_decide_eq_true (by kernel_rfl)⟩) hb⟩
theorem BookCounts_holds : Rows.BookCountsSaid :=
  OpenClaim.holds_of_wide 7 Try.f7 rfl rfl rfl rfl rfl rfl rfl ⟨rfl, rfl, rfl, rfl, rfl⟩ rfl rfl rfl rfl rfl (by kernel_rfl) Try.func7 (by kernel_rfl)
    (of_decide_eq_true (by kernel_rfl)) (by unfold Func.isWrapper; first | (rw [if_pos (by decide +kernel)]; kernel_rfl) | (rw [if_neg (by decide +kernel)]; exact ⟨rfl, rfl⟩))
    (fun os started H enc _ => BookCounts_lifted os started H enc)
end Go.Proofs.Ytlognaddmbolgaa
