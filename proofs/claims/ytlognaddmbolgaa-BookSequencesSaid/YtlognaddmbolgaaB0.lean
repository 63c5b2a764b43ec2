/- Numbers and elements as cells. -/
import Derived.Test.YtlognaddmbolgaaD1
namespace Go.Proofs.Ytlognaddmbolgaa
open Go Go.Sl

def encI (m : Int) : List Value := [.int .i64 m]
instance : EncLen encI 1 := ⟨fun _ => rfl, fun _ u h => by simp [encI] at h; subst h; rfl⟩
def encE (e : ElemD) : List Value := e.val.cells.toList
instance : EncLen encE 12 := ⟨fun _ => rfl, fun e u h => by simp [encE, ElemD.val, Value.cells] at h; rcases h with h | h | h | h | h | h | h | h | h | h | h | h <;> subst h <;> rfl⟩
theorem take_snoc {α : Type} (ys : List α) (i : Nat) (y : α) (h : ys[i]? = some y) : ys.take (i + 1) = ys.take i ++ [y] := by rw [List.take_add_one, h]; rfl

end Go.Proofs.Ytlognaddmbolgaa
