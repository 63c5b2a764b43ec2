/- Rows of numbers among a law's arguments. -/
import Derived.Test.YtlognaddmbolgaaW2
import Derived.Test.YtlognaddmbolgaaK1
namespace Go.Proofs.Ytlognaddmbolgaa
open Go Go.Sl Go.RowKit Go.ChangeShapes Go.WideShapes Go.Deep
section
variable {H : Type} {enc : TypeId × Value → H} {W : World}
set_option maxRecDepth 100000 in
theorem open_rows {v : Value} {d : DataW H} {ps : List MemPlace} {b0 : Nat} (hv : Value.okWide Try.prog W .any b0 22 v) (h : DataW.Trod enc Try.prog W 0 (fun _ => true) true 22 v d ps) :
    ∃ (A : Option Addr) (len cap : Nat) (rs : List RowD), v = .slice A len cap ∧ rs.length = len ∧ len ≤ maxLen ∧ rdE A encR 1 rs (hp W) ∧ ∀ r ∈ rs, (r.zs.length = r.len ∧ r.len ≤ 9223372036854775807) ∧ rdE r.a encI 1 r.zs (hp W) :=
  open_pslP (e := 28) (Pr := fun r : RowD => (r.zs.length = r.len ∧ r.len ≤ 9223372036854775807) ∧ rdE r.a encI 1 r.zs (hp W)) (by kernel_rfl) (by kernel_rfl) (by decide) (fun n cs x hx => by
    obtain ⟨A, len, cap, ys, h1, h2, h3, h4, _⟩ := open_cs (e := 3) (en := encI) (Pr := fun _ => True) (by kernel_rfl) (by kernel_rfl) (by decide) (fun n cs x hx => let ⟨y, hy⟩ := cells_encI hx; ⟨y, hy, trivial⟩) hx
    exact ⟨⟨A, len, cap, ys⟩, h1, ⟨h2, Nat.le_trans h3 (by decide)⟩, h4⟩) hv h
theorem holds_rows {K : List SProp} {rs : List RowD} (h : holds (star (whole W) (sl K)) W) (r : ∀ q ∈ rs, rdE q.a encI 1 q.zs (hp W)) : holds (star (whole W) (sl (prows rs :: K))) W := by
  obtain ⟨B, k, d, l, m, k1, k2, d12, l1, l2, x, y⟩ := h
  exact ⟨B, k, d, l, m, k1, k2, d12, l1, l2, x, hnil, k2, (Dj.nil _).symm, .nil _, .refl _, fun q hq => rdE.le (r q hq) x, y⟩
end
end Go.Proofs.Ytlognaddmbolgaa
