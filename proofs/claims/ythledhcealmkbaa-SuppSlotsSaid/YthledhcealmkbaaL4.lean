/- For every input of the types that it takes, 'SuppSlots' answers true and leaves what was there as it was. -/
import Derived.Test.YthledhcealmkbaaRows
import Derived.Test.YthledhcealmkbaaW2
import Derived.Test.YthledhcealmkbaaW3
namespace Go.Proofs.Ythledhcealmkbaa
open Go Go.Sl Go.ChangeShapes Go.WideShapes Go.ChangeAt Go.RowKit

theorem own4 : ownKnob Try.prog.godebug = none := by kernel_rfl
theorem laidOut4 : laidOutB Try.prog = true := by kernel_rfl
theorem params4 : Try.f7.params = #[47, 4, 4] := by kernel_rfl
set_option maxRecDepth 100000 in
theorem SuppSlots_lifted (os : Os) (started : os.Started) (H : Type) (enc : TypeId × Value → H) :
    ReturnsInHanded {} Try.checked os 7 .any (Rows.suppSlotsSpec.pre6 enc Try.prog Try.f7 Rows.suppSlotsRow.domain false) (Rows.suppSlotsSpec.post enc Try.prog Try.f7 false true false false) := by
  refine returnsInHanded_of_change (C := Try.checked) own4 started (by kernel_rfl) Try.func7
    (ChangeSpec.witness6 (enc := enc) (C := Try.checked) false ⟨#[], #[PrefD.val ⟨⟨0, ByteArray.empty, 0⟩, ⟨0, ByteArray.empty, 0⟩, ⟨0, ByteArray.empty, 0⟩, ⟨0, ByteArray.empty, 0⟩, 0, false, 0, 0⟩, .bool false, .bool false], []⟩ 8 (by kernel_rfl) (by kernel_rfl) (by kernel_rfl) (by kernel_rfl)) ?_
  intro W base args ds gs before hval0 hW hcnd _
  have hval : ∀ (j : Nat) t v, Try.f7.params[j]? = some t → args[j]? = some v → Value.okWide Try.prog W .any base t v := hval0
  have hW' := hW
  obtain ⟨p, q, hA0, hV, rfl, hfz, hnd⟩ := hW
  have hA : DataW.TrodAll enc Try.prog W 0 (fun _ => true) true Try.f7.params.toList args.toList ds p := hA0
  rw [params4] at hA hval
  obtain ⟨v0, v1, v2, d0, d1, d2, p0, p1, p2, rfl, rfl, rfl, h0, h1, h2⟩ := trodAll_three hA
  obtain ⟨x0, rfl⟩ := open_pref (hval 0 _ v0 rfl rfl) h0
  obtain ⟨x1, rfl, -, -⟩ := open_bool (by kernel_rfl) (hval 1 _ v1 rfl rfl) h1
  obtain ⟨x2, rfl, -, -⟩ := open_bool (by kernel_rfl) (hval 2 _ v2 rfl rfl) h2
  refine (law_calls (SuppSlots_spec x0 x1 x2) (holds_nil W)).mono ?_
  rintro _ W' ⟨v, L', rfl, ⟨rfl, rfl⟩, hb⟩
  exact ⟨_, rfl, post_law (tb := 4) hW' laidOut4 rfl rfl (by kernel_rfl) (by kernel_rfl) (by rw [params4]; intro t ht; simp at ht; rcases ht with rfl | rfl | rfl <;> exact ⟨by kernel_rfl, of_decide_eq_true (by kernel_rfl)⟩) hb⟩
theorem SuppSlots_holds : Rows.SuppSlotsSaid :=
  OpenClaim.holds_of_wide 7 Try.f7 rfl rfl rfl rfl rfl rfl rfl ⟨rfl, rfl, rfl, rfl, rfl⟩ rfl rfl rfl rfl rfl (by kernel_rfl) Try.func7 (by kernel_rfl)
    (of_decide_eq_true (by kernel_rfl)) (by unfold Func.isWrapper; first | (rw [if_pos (by decide +kernel)]; kernel_rfl) | (rw [if_neg (by decide +kernel)]; exact ⟨rfl, rfl⟩))
    (fun os started H enc _ => SuppSlots_lifted os started H enc)
end Go.Proofs.Ythledhcealmkbaa
