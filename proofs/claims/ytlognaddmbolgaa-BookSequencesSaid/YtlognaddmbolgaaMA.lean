/- For every input of the types that it takes, 'BookSequences' answers true and leaves what was there as it was. -/
import Derived.Test.YtlognaddmbolgaaRows
import Derived.Test.YtlognaddmbolgaaWS
import Derived.Test.YtlognaddmbolgaaK15
namespace Go.Proofs.Ytlognaddmbolgaa
open Go Go.Sl Go.ChangeShapes Go.WideShapes Go.ChangeAt Go.RowKit

theorem ownMA : ownKnob Try.prog.godebug = none := by kernel_rfl
theorem laidOutMA : laidOutB Try.prog = true := by kernel_rfl
theorem paramsMA : Try.f6.params = #[35, 27, 3] := by kernel_rfl
set_option maxRecDepth 100000 in
theorem BookSequences_lifted (os : Os) (started : os.Started) (H : Type) (enc : TypeId × Value → H) :
    ReturnsInHanded {} Try.checked os 6 .any (Rows.bookSequencesSpec.pre6 enc Try.prog Try.f6 Rows.bookSequencesRow.domain false) (Rows.bookSequencesSpec.post enc Try.prog Try.f6 false true false false) := by
  refine returnsInHanded_of_change (C := Try.checked) ownMA started (by kernel_rfl) Try.func6
    (ChangeSpec.witness6 (enc := enc) (C := Try.checked) false ⟨#[], #[.slice none 0 0, SymD.val ⟨0, ByteArray.empty, 0⟩, .int .i64 0], []⟩ 8 (by kernel_rfl) (by kernel_rfl) (by kernel_rfl) (by kernel_rfl)) ?_
  intro W base args ds gs before hval0 hW hcnd _
  have hval : ∀ (j : Nat) t v, Try.f6.params[j]? = some t → args[j]? = some v → Value.okWide Try.prog W .any base t v := hval0
  have hW' := hW
  obtain ⟨p, q, hA0, hV, rfl, hfz, hnd⟩ := hW
  have hA : DataW.TrodAll enc Try.prog W 0 (fun _ => true) true Try.f6.params.toList args.toList ds p := hA0
  rw [paramsMA] at hA hval
  obtain ⟨v0, v1, v2, d0, d1, d2, p0, p1, p2, rfl, rfl, rfl, h0, h1, h2⟩ := trodAll_three hA
  obtain ⟨A0, n0, c0, y0, rfl, l0, m0, r0⟩ := open_psl (en := encS) (by kernel_rfl) (by kernel_rfl) (by decide) (fun _ _ _ h => cells_encS h) (hval 0 _ v0 rfl rfl) h0
  obtain ⟨x1, rfl⟩ := open_sym (hval 1 _ v1 rfl rfl) h1
  obtain ⟨x2, rfl, -, b2⟩ := open_int (k := .i64) (by kernel_rfl) (hval 2 _ v2 rfl rfl) h2
  refine (law_calls (BookSequences_spec A0 n0 c0 y0 l0 (Nat.le_trans m0 (by decide)) x1 x2) (holds_psl (holds_nil W) r0)).mono ?_
  rintro _ W' ⟨v, L', rfl, ⟨rfl, rfl⟩, hb⟩
  exact ⟨_, rfl, post_law (tb := 4) hW' laidOutMA rfl rfl (by kernel_rfl) (by kernel_rfl) (by rw [paramsMA]; intro t ht; simp at ht; rcases ht with rfl | rfl | rfl <;> exact ⟨by kernel_rfl, of_decide_eq_true (by kernel_rfl)⟩) hb⟩
theorem BookSequences_holds : Rows.BookSequencesSaid :=
  OpenClaim.holds_of_wide 6 Try.f6 rfl rfl rfl rfl rfl rfl rfl ⟨rfl, rfl, rfl, rfl, rfl⟩ rfl rfl rfl rfl rfl (by kernel_rfl) Try.func6 (by kernel_rfl)
    (of_decide_eq_true (by kernel_rfl)) (by unfold Func.isWrapper; first | (rw [if_pos (by decide +kernel)]; kernel_rfl) | (rw [if_neg (by decide +kernel)]; exact ⟨rfl, rfl⟩))
    (fun os started H enc _ => BookSequences_lifted os started H enc)
end Go.Proofs.Ytlognaddmbolgaa
