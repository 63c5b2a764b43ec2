/- Things told one by one, as values; a list that grows in a variable. -/
import Derived.Test.YtlognaddmbolgaaK4
import Derived.Test.YtlognaddmbolgaaSlA
namespace Go.Proofs.Ytlognaddmbolgaa
open Go Go.Sl
attribute [local irreducible] Code.wpIn roundPost bodyPostM runL Ret Meets Begin

def encVS (x : SymD) : List Value := [SymD.val x]
/-- A list that grows, in a variable. -/
def GrowS (p : Nat) (pre : List SymD) : SProp := ex fun r : Option Addr × Nat => sl [cellsB p #[.slice r.1 pre.length r.2] 35, osl 27 encS 3 r.1 r.2 pre]
section
variable {w0 : World} {A : SProp} {L M : List SProp} {Φ : World → Prop}
theorem openGS (p : Nat) (pre : List SymD) [tk : Take1 L (GrowS p pre) M] (h : ∀ S c, G w0 A (cellsB p #[.slice S pre.length c] 35 :: osl 27 encS 3 S c pre :: M) Φ) : G w0 A L Φ :=
  G.perm tk.perm (G.ex fun ⟨S, c⟩ => G.open_sl (h S c))
theorem shutGS (p : Nat) (pre : List SymD) (S : Option Addr) (c : Nat) {n : Nat} (hn : pre.length = n) [tk : Take L [cellsB p #[.slice S n c] 35, osl 27 encS 3 S c pre] M] (h : G w0 A (GrowS p pre :: M) Φ) : G w0 A L Φ := by
  subst hn
  exact G.perm tk.perm (G.ent ((sl_append_to _ M).trans (Ent.star (show Ent _ (GrowS p pre) from fun _ _ x => ⟨(S, c), x⟩) (Ent.refl _))) h)
theorem newGS (p : Nat) [tk : Take1 L (cellsB p #[.slice none 0 0] 35) M] (h : G w0 A (GrowS p [] :: M) Φ) : G w0 A L Φ :=
  G.perm tk.perm (G.nil_slice 27 encS 3 (shutGS p [] none 0 rfl (M := M) (tk := ⟨List.Perm.swap _ _ _⟩) h))
end
end Go.Proofs.Ytlognaddmbolgaa
