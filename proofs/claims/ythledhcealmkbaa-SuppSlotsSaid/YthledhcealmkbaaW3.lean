/- Preferences among a law's arguments. -/
import Derived.Test.YthledhcealmkbaaW2
import Derived.Test.YthledhcealmkbaaB6
namespace Go.Proofs.Ythledhcealmkbaa
open Go Go.Sl Go.RowKit Go.ChangeShapes Go.WideShapes Go.Deep
section
variable {H : Type} {enc : TypeId × Value → H} {W : World}
theorem cells_pref {n : Nat} {cs : List Value} {x : DataW H × List MemPlace} (h : DataW.trod enc Try.prog W 0 (fun _ => true) true n 47 cs = some x) : ∃ e : PrefD, cs = e.val.cells.toList := by
  have hl := cells_length (sz := 16) (by kernel_rfl) h (by kernel_rfl)
  obtain ⟨m0, y0, f0⟩ := cells_field (i := 0) (ft := 33) (off := 0) (sz := 3) (by kernel_rfl) h (by kernel_rfl) (by kernel_rfl)
  obtain ⟨m1, y1, f1⟩ := cells_field (i := 1) (ft := 33) (off := 3) (sz := 3) (by kernel_rfl) h (by kernel_rfl) (by kernel_rfl)
  obtain ⟨m2, y2, f2⟩ := cells_field (i := 2) (ft := 33) (off := 6) (sz := 3) (by kernel_rfl) h (by kernel_rfl) (by kernel_rfl)
  obtain ⟨m3, y3, f3⟩ := cells_field (i := 3) (ft := 33) (off := 9) (sz := 3) (by kernel_rfl) h (by kernel_rfl) (by kernel_rfl)
  obtain ⟨m4, y4, f4⟩ := cells_field (i := 4) (ft := 3) (off := 12) (sz := 1) (by kernel_rfl) h (by kernel_rfl) (by kernel_rfl)
  obtain ⟨m5, y5, f5⟩ := cells_field (i := 5) (ft := 4) (off := 13) (sz := 1) (by kernel_rfl) h (by kernel_rfl) (by kernel_rfl)
  obtain ⟨m6, y6, f6⟩ := cells_field (i := 6) (ft := 3) (off := 14) (sz := 1) (by kernel_rfl) h (by kernel_rfl) (by kernel_rfl)
  obtain ⟨m7, y7, f7⟩ := cells_field (i := 7) (ft := 3) (off := 15) (sz := 1) (by kernel_rfl) h (by kernel_rfl) (by kernel_rfl)
  obtain ⟨k0, g0⟩ := cells_sym f0
  obtain ⟨k1, g1⟩ := cells_sym f1
  obtain ⟨k2, g2⟩ := cells_sym f2
  obtain ⟨k3, g3⟩ := cells_sym f3
  obtain ⟨k4, g4⟩ := cells_int f4
  obtain ⟨k5, g5⟩ := cells_bool f5
  obtain ⟨k6, g6⟩ := cells_int f6
  obtain ⟨k7, g7⟩ := cells_int f7
  match cs, hl with
  | [c0, c1, c2, c3, c4, c5, c6, c7, c8, c9, c10, c11, c12, c13, c14, c15], _ =>
    simp [SymD.cells] at g0 g1 g2 g3 g4 g5 g6 g7
    obtain ⟨rfl, rfl, rfl⟩ := g0
    obtain ⟨rfl, rfl, rfl⟩ := g1
    obtain ⟨rfl, rfl, rfl⟩ := g2
    obtain ⟨rfl, rfl, rfl⟩ := g3
    subst g4; subst g5; subst g6; subst g7
    exact ⟨⟨k0, k1, k2, k3, k4, k5, k6, k7⟩, rfl⟩
theorem open_pref {v : Value} {d : DataW H} {ps : List MemPlace} {b0 : Nat} (hv : Value.okWide Try.prog W .any b0 47 v) (h : DataW.Trod enc Try.prog W 0 (fun _ => true) true 47 v d ps) : ∃ e : PrefD, v = e.val := by
  obtain ⟨cs, rfl, _⟩ := okWide_struct (fs := Try.prog.fieldsOf 47) (by kernel_rfl) hv
  obtain ⟨n, hn⟩ := h
  obtain ⟨e, he⟩ := cells_pref hn
  exact ⟨e, by rw [show cs = e.val.cells from Array.toList_inj.1 he]; rfl⟩
end
end Go.Proofs.Ythledhcealmkbaa
