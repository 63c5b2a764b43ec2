/- Symbols in slices among a law's arguments. -/
import Derived.Test.YtlognaddmbolgaaW2
import Derived.Test.YtlognaddmbolgaaK4
namespace Go.Proofs.Ytlognaddmbolgaa
open Go Go.Sl Go.RowKit Go.ChangeShapes Go.WideShapes Go.Deep
theorem cells_encS {H : Type} {enc : TypeId × Value → H} {W : World} {n : Nat} {cs : List Value} {x : DataW H × List MemPlace} (h : DataW.trod enc Try.prog W 0 (fun _ => true) true n 27 cs = some x) : ∃ e : SymD, cs = encS e := cells_sym h
end Go.Proofs.Ytlognaddmbolgaa
