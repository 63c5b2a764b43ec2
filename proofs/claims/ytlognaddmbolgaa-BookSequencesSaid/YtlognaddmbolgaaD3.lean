/- Pages of symbols and numbers; sorted lists; where a thing stands in one. -/
import Derived.Test.YtlognaddmbolgaaD2
namespace Go.Proofs.Ytlognaddmbolgaa
open Go Go.Sl
attribute [local irreducible] Code.wpIn roundPost bodyPostM runL Ret Meets Begin

section
variable {α : Type} (f : α → α → Int)
/-- The list rises. -/
def Srt (ys : List α) : Prop := ∀ (i j : Nat) (a b : α), i < j → ys[i]? = some a → ys[j]? = some b → f a b < 0
/-- What a search tells. -/
def FindR (ys : List α) (x : α) (k : Nat) (there : Bool) : Prop :=
  k ≤ ys.length ∧ (there = true → ∃ y, ys[k]? = some y ∧ f y x = 0) ∧ (there = false → (∀ (j : Nat) (y : α), j < k → ys[j]? = some y → f y x < 0) ∧ ∀ (j : Nat) (y : α), k ≤ j → ys[j]? = some y → 0 < f y x)
end
/-- A slice, as a value. -/
structure SlV where
  a : Option Addr
  len : Nat
  cap : Nat
end Go.Proofs.Ytlognaddmbolgaa
