/- For every input of the types that it takes, 'BookLists' answers true and leaves what was there as it was. -/
import Derived.Test.YtlognaddmbolgaaRows
import Derived.Test.YtlognaddmbolgaaWR
import Derived.Test.YtlognaddmbolgaaK2
namespace Go.Proofs.Ytlognaddmbolgaa
open Go Go.Sl Go.ChangeShapes Go.WideShapes Go.ChangeAt Go.RowKit

theorem ownL3 : ownKnob Try.prog.godebug = none := by kernel_rfl
theorem laidOutL3 : laidOutB Try.prog = true := by kernel_rfl
theorem paramsL3 : Try.f3.params = #[22] := by kernel_rfl
set_option maxRecDepth 100000 in
theorem BookLists_lifted (os : Os) (started : os.Started) (H : Type) (enc : TypeId × Value → H) :
    ReturnsInHanded {} Try.checked os 3 .any (Rows.bookListsSpec.pre6 enc Try.prog Try.f3 Rows.bookListsRow.domain false) (Rows.bookListsSpec.post enc Try.prog Try.f3 false true false false) := by
  refine returnsInHanded_of_change (C := Try.checked) ownL3 started (by kernel_rfl) Try.func3
    (ChangeSpec.witness6 (enc := enc) (C := Try.checked) false ⟨#[], #[.slice none 0 0], []⟩ 8 (by kernel_rfl) (by kernel_rfl) (by kernel_rfl) (by kernel_rfl)) ?_
  intro W base args ds gs before hval0 hW hcnd _
  have hval : ∀ (j : Nat) t v, Try.f3.params[j]? = some t → args[j]? = some v → Value.okWide Try.prog W .any base t v := hval0
  have hW' := hW
  obtain ⟨p, q, hA0, hV, rfl, hfz, hnd⟩ := hW
  have hA : DataW.TrodAll enc Try.prog W 0 (fun _ => true) true Try.f3.params.toList args.toList ds p := hA0
  rw [paramsL3] at hA hval
  obtain ⟨v0, d0, rfl, rfl, h0⟩ := trodAll_one hA
  obtain ⟨A0, n0, c0, y0, rfl, l0, m0, r0, w0⟩ := open_rows (hval 0 _ v0 rfl rfl) h0
  refine (law_calls (BookLists_spec A0 n0 c0 y0 l0 (Nat.le_trans m0 (by decide)) (fun q hq => (w0 q hq).1)) (holds_psl (holds_rows (holds_nil W) fun q hq => (w0 q hq).2) r0)).mono ?_
  rintro _ W' ⟨v, L', rfl, ⟨rfl, rfl⟩, hb⟩
  exact ⟨_, rfl, post_law (tb := 4) hW' laidOutL3 rfl rfl (by kernel_rfl) (by kernel_rfl) (by rw [paramsL3]; intro t ht; simp at ht; rcases ht with rfl <;> exact ⟨by kernel_rfl, of_decide_eq_true (by kernel_rfl)⟩) hb⟩
theorem BookLists_holds : Rows.BookListsSaid :=
  OpenClaim.holds_of_wide 3 Try.f3 rfl rfl rfl rfl rfl rfl rfl ⟨rfl, rfl, rfl, rfl, rfl⟩ rfl rfl rfl rfl rfl (by kernel_rfl) Try.func3 (by kernel_rfl)
    (of_decide_eq_true (by kernel_rfl)) (by unfold Func.isWrapper; first | (rw [if_pos (by decide +kernel)]; kernel_rfl) | (rw [if_neg (by decide +kernel)]; exact ⟨rfl, rfl⟩))
    (fun os started H enc _ => BookLists_lifted os started H enc)
end Go.Proofs.Ytlognaddmbolgaa
