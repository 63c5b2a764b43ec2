/-
  No cell of these rows narrows 'for every input' (looked for: loops, veiled, ifaces, maps, wideKeys, modest, calm, conditions, laid).
  DERIVED. THE GIVEN ROWS OF THIS SEAT. 7 by the template 'for every input the law returns true; each argument reads behind the call as it read before'; 0 by the template 'total and deterministic' (their statements: YtljiooihhfndjaaTotals.lean).
  GIVEN WITH THE SEED: the statements are not yours to turn. If you find one false, say at which input.
  Laid BY PROGRAM, IN A SANDBOX (cutbox-rows.mjs): the forced cells as the released guide's own fill.sh prints them over the translation 0f20ce238691ba4a… (all of the seat's roots in one cut). By AI agents, Wed Nov 11 2026. No macro, syntax, notation, axiom, sorry.
-/
import Derived.Test.YtljiooihhfndjaaChecked
import GoSem.Claim
import GoSem.ClaimJoined
import GoSem.ClaimMapViews
import Derived.JoinedTies
import Derived.KernelRfl
namespace Go.Proofs.Ytljiooihhfndjaa
/- THE CELL 'sum', in the pinned program and in every row, IS THE sha256 OF THE DUMP (.gsa) THAT YtljiooihhfndjaaProg.lean LOADS. Nothing in Lean hashes anything: it is a label: what it is worth is what the hold of that sum in a sandbox is worth. -/
noncomputable def Try.pinned : Pinned := { name := "ytljiooihhfndjaa", sum := "0f20ce238691ba4a7a81a76a175b23cd7379a83e688112b86543c2933e2bceff", checked := Try.checked }
namespace Rows
def none {H : Type} : Left H := { results := [], args := [] }

/-- 'ponderlaw18.PickDecides': WHATEVER THE INPUT: true; the input reads as it did. -/
def pickDecidesSpec : ChangeSpec := { name := "pickDecides", fn := fun _ => fun
  | [d1, d2] => { results := [.lit (.bool true)], args := [d1, d2] }
  | _ => none }
def pickDecidesRow : OpenClaim := { program := "ytljiooihhfndjaa", sum := "0f20ce238691ba4a7a81a76a175b23cd7379a83e688112b86543c2933e2bceff", func := "ponder/ponderlaw18.PickDecides", spec := "pickDecides", unfollowed := true, recurses := true, apart := false }
def PickDecidesSaid : Prop := pickDecidesRow.holds Try.pinned (OpenSpec.ofChange pickDecidesSpec)

/-- ITS FALSE NEIGHBOUR: 'it returns false'. Refute it at one input. -/
def pickDecidesWrong : ChangeSpec := { name := "pickDecides", fn := fun _ => fun
  | [d1, d2] => { results := [.lit (.bool false)], args := [d1, d2] }
  | _ => none }
def PickDecidesWrongFalsely : Prop := pickDecidesRow.holds Try.pinned (OpenSpec.ofChange pickDecidesWrong)

/-- 'ponderlaw18.PickOrders': WHATEVER THE INPUT: true; the input reads as it did. -/
def pickOrdersSpec : ChangeSpec := { name := "pickOrders", fn := fun _ => fun
  | [d1, d2, d3] => { results := [.lit (.bool true)], args := [d1, d2, d3] }
  | _ => none }
def pickOrdersRow : OpenClaim := { program := "ytljiooihhfndjaa", sum := "0f20ce238691ba4a7a81a76a175b23cd7379a83e688112b86543c2933e2bceff", func := "ponder/ponderlaw18.PickOrders", spec := "pickOrders", unfollowed := true, recurses := true, apart := false }
def PickOrdersSaid : Prop := pickOrdersRow.holds Try.pinned (OpenSpec.ofChange pickOrdersSpec)

/-- ITS FALSE NEIGHBOUR: 'it returns false'. Refute it at one input. -/
def pickOrdersWrong : ChangeSpec := { name := "pickOrders", fn := fun _ => fun
  | [d1, d2, d3] => { results := [.lit (.bool false)], args := [d1, d2, d3] }
  | _ => none }
def PickOrdersWrongFalsely : Prop := pickOrdersRow.holds Try.pinned (OpenSpec.ofChange pickOrdersWrong)

/-- 'ponderlaw18.PickDraws': WHATEVER THE INPUT: true; the input reads as it did. -/
def pickDrawsSpec : ChangeSpec := { name := "pickDraws", fn := fun _ => fun
  | [d1, d2] => { results := [.lit (.bool true)], args := [d1, d2] }
  | _ => none }
def pickDrawsRow : OpenClaim := { program := "ytljiooihhfndjaa", sum := "0f20ce238691ba4a7a81a76a175b23cd7379a83e688112b86543c2933e2bceff", func := "ponder/ponderlaw18.PickDraws", spec := "pickDraws", unfollowed := true, recurses := true, apart := false }
def PickDrawsSaid : Prop := pickDrawsRow.holds Try.pinned (OpenSpec.ofChange pickDrawsSpec)

/-- ITS FALSE NEIGHBOUR: 'it returns false'. Refute it at one input. -/
def pickDrawsWrong : ChangeSpec := { name := "pickDraws", fn := fun _ => fun
  | [d1, d2] => { results := [.lit (.bool false)], args := [d1, d2] }
  | _ => none }
def PickDrawsWrongFalsely : Prop := pickDrawsRow.holds Try.pinned (OpenSpec.ofChange pickDrawsWrong)

/-- 'ponderlaw18.PickBest': WHATEVER THE INPUT: true; the input reads as it did. -/
def pickBestSpec : ChangeSpec := { name := "pickBest", fn := fun _ => fun
  | [d1, d2, d3] => { results := [.lit (.bool true)], args := [d1, d2, d3] }
  | _ => none }
def pickBestRow : OpenClaim := { program := "ytljiooihhfndjaa", sum := "0f20ce238691ba4a7a81a76a175b23cd7379a83e688112b86543c2933e2bceff", func := "ponder/ponderlaw18.PickBest", spec := "pickBest", unfollowed := true, recurses := true, apart := false }
def PickBestSaid : Prop := pickBestRow.holds Try.pinned (OpenSpec.ofChange pickBestSpec)

/-- ITS FALSE NEIGHBOUR: 'it returns false'. Refute it at one input. -/
def pickBestWrong : ChangeSpec := { name := "pickBest", fn := fun _ => fun
  | [d1, d2, d3] => { results := [.lit (.bool false)], args := [d1, d2, d3] }
  | _ => none }
def PickBestWrongFalsely : Prop := pickBestRow.holds Try.pinned (OpenSpec.ofChange pickBestWrong)

/-- 'ponderlaw18.PickRow': WHATEVER THE INPUT: true; the input reads as it did. -/
def pickRowSpec : ChangeSpec := { name := "pickRow", fn := fun _ => fun
  | [d1, d2, d3] => { results := [.lit (.bool true)], args := [d1, d2, d3] }
  | _ => none }
def pickRowRow : OpenClaim := { program := "ytljiooihhfndjaa", sum := "0f20ce238691ba4a7a81a76a175b23cd7379a83e688112b86543c2933e2bceff", func := "ponder/ponderlaw18.PickRow", spec := "pickRow", unfollowed := true, recurses := true, apart := false }
def PickRowSaid : Prop := pickRowRow.holds Try.pinned (OpenSpec.ofChange pickRowSpec)

/-- ITS FALSE NEIGHBOUR: 'it returns false'. Refute it at one input. -/
def pickRowWrong : ChangeSpec := { name := "pickRow", fn := fun _ => fun
  | [d1, d2, d3] => { results := [.lit (.bool false)], args := [d1, d2, d3] }
  | _ => none }
def PickRowWrongFalsely : Prop := pickRowRow.holds Try.pinned (OpenSpec.ofChange pickRowWrong)

/-- 'ponderlaw18.PickStuck': WHATEVER THE INPUT: true; the input reads as it did. -/
def pickStuckSpec : ChangeSpec := { name := "pickStuck", fn := fun _ => fun
  | [d1, d2] => { results := [.lit (.bool true)], args := [d1, d2] }
  | _ => none }
def pickStuckRow : OpenClaim := { program := "ytljiooihhfndjaa", sum := "0f20ce238691ba4a7a81a76a175b23cd7379a83e688112b86543c2933e2bceff", func := "ponder/ponderlaw18.PickStuck", spec := "pickStuck", unfollowed := true, recurses := true, apart := false }
def PickStuckSaid : Prop := pickStuckRow.holds Try.pinned (OpenSpec.ofChange pickStuckSpec)

/-- ITS FALSE NEIGHBOUR: 'it returns false'. Refute it at one input. -/
def pickStuckWrong : ChangeSpec := { name := "pickStuck", fn := fun _ => fun
  | [d1, d2] => { results := [.lit (.bool false)], args := [d1, d2] }
  | _ => none }
def PickStuckWrongFalsely : Prop := pickStuckRow.holds Try.pinned (OpenSpec.ofChange pickStuckWrong)

/-- 'ponderlaw18.PickWins': WHATEVER THE INPUT: true; the input reads as it did. -/
def pickWinsSpec : ChangeSpec := { name := "pickWins", fn := fun _ => fun
  | [d1, d2] => { results := [.lit (.bool true)], args := [d1, d2] }
  | _ => none }
def pickWinsRow : OpenClaim := { program := "ytljiooihhfndjaa", sum := "0f20ce238691ba4a7a81a76a175b23cd7379a83e688112b86543c2933e2bceff", func := "ponder/ponderlaw18.PickWins", spec := "pickWins", unfollowed := true, recurses := true, apart := false }
def PickWinsSaid : Prop := pickWinsRow.holds Try.pinned (OpenSpec.ofChange pickWinsSpec)

/-- ITS FALSE NEIGHBOUR: 'it returns false'. Refute it at one input. -/
def pickWinsWrong : ChangeSpec := { name := "pickWins", fn := fun _ => fun
  | [d1, d2] => { results := [.lit (.bool false)], args := [d1, d2] }
  | _ => none }
def PickWinsWrongFalsely : Prop := pickWinsRow.holds Try.pinned (OpenSpec.ofChange pickWinsWrong)

/- THE SECOND FORM. 'bulk': how many values and letters a reading holds, each counted each time it is reached (what is shared counts as often as it is met; a slice's spare places count too). A statement '..UptoSaid' is the law's where the arguments, and the package variables that the reading takes, are together of bulk at most 1048576: NARROWER than '..Said'. Prove '..Said' where nothing that the law and all that it calls make is longer than what came in: it says more and counts as full. Else prove '..UptoSaid'. A law counts once. -/
mutual
def uptoBulk {H : Type} : DataW H → Nat
  | .lit (.string bytes) => bytes.length + 1
  | .lit _ => 1
  | .nil => 1
  | .ptr d => uptoBulk d + 1
  | .slice elems spare => uptoBulkAll elems + uptoBulkAll spare + 1
  | .agg parts => uptoBulkAll parts + 1
  | .iface _ d => uptoBulk d + 1
  | .map entries => uptoBulkEntries entries + 1
  | .held _ => 1
def uptoBulkAll {H : Type} : List (DataW H) → Nat
  | [] => 0
  | d :: r => uptoBulk d + uptoBulkAll r
def uptoBulkEntries {H : Type} : List (Lit × DataW H) → Nat
  | [] => 0
  | x :: r => uptoBulkEntry x + uptoBulkEntries r
def uptoBulkEntry {H : Type} : Lit × DataW H → Nat
  | (.string bytes, d) => bytes.length + uptoBulk d + 1
  | (_, d) => uptoBulk d + 1
 end
def uptoSmall : (H : Type) → List (DataW H) → Bool := fun _ ds => decide (uptoBulkAll ds ≤ 1048576)
def OpenSpec.upto (s : _root_.Go.ChangeSpec) : _root_.Go.OpenSpec := { _root_.Go.OpenSpec.ofChange s with cond := some uptoSmall }

/-- 'ponderlaw18.PickDecides', WHERE WHAT IT READS IS OF BULK AT MOST 1048576: true; the input reads as it did. -/
def pickDecidesUptoRow : OpenClaim := { program := "ytljiooihhfndjaa", sum := "0f20ce238691ba4a7a81a76a175b23cd7379a83e688112b86543c2933e2bceff", func := "ponder/ponderlaw18.PickDecides", spec := "pickDecides", unfollowed := true, recurses := true, apart := false, narrowed := true }
def PickDecidesUptoSaid : Prop := pickDecidesUptoRow.holds Try.pinned (OpenSpec.upto pickDecidesSpec)

/-- 'ponderlaw18.PickOrders', WHERE WHAT IT READS IS OF BULK AT MOST 1048576: true; the input reads as it did. -/
def pickOrdersUptoRow : OpenClaim := { program := "ytljiooihhfndjaa", sum := "0f20ce238691ba4a7a81a76a175b23cd7379a83e688112b86543c2933e2bceff", func := "ponder/ponderlaw18.PickOrders", spec := "pickOrders", unfollowed := true, recurses := true, apart := false, narrowed := true }
def PickOrdersUptoSaid : Prop := pickOrdersUptoRow.holds Try.pinned (OpenSpec.upto pickOrdersSpec)

/-- 'ponderlaw18.PickDraws', WHERE WHAT IT READS IS OF BULK AT MOST 1048576: true; the input reads as it did. -/
def pickDrawsUptoRow : OpenClaim := { program := "ytljiooihhfndjaa", sum := "0f20ce238691ba4a7a81a76a175b23cd7379a83e688112b86543c2933e2bceff", func := "ponder/ponderlaw18.PickDraws", spec := "pickDraws", unfollowed := true, recurses := true, apart := false, narrowed := true }
def PickDrawsUptoSaid : Prop := pickDrawsUptoRow.holds Try.pinned (OpenSpec.upto pickDrawsSpec)

/-- 'ponderlaw18.PickBest', WHERE WHAT IT READS IS OF BULK AT MOST 1048576: true; the input reads as it did. -/
def pickBestUptoRow : OpenClaim := { program := "ytljiooihhfndjaa", sum := "0f20ce238691ba4a7a81a76a175b23cd7379a83e688112b86543c2933e2bceff", func := "ponder/ponderlaw18.PickBest", spec := "pickBest", unfollowed := true, recurses := true, apart := false, narrowed := true }
def PickBestUptoSaid : Prop := pickBestUptoRow.holds Try.pinned (OpenSpec.upto pickBestSpec)

/-- 'ponderlaw18.PickRow', WHERE WHAT IT READS IS OF BULK AT MOST 1048576: true; the input reads as it did. -/
def pickRowUptoRow : OpenClaim := { program := "ytljiooihhfndjaa", sum := "0f20ce238691ba4a7a81a76a175b23cd7379a83e688112b86543c2933e2bceff", func := "ponder/ponderlaw18.PickRow", spec := "pickRow", unfollowed := true, recurses := true, apart := false, narrowed := true }
def PickRowUptoSaid : Prop := pickRowUptoRow.holds Try.pinned (OpenSpec.upto pickRowSpec)

/-- 'ponderlaw18.PickStuck', WHERE WHAT IT READS IS OF BULK AT MOST 1048576: true; the input reads as it did. -/
def pickStuckUptoRow : OpenClaim := { program := "ytljiooihhfndjaa", sum := "0f20ce238691ba4a7a81a76a175b23cd7379a83e688112b86543c2933e2bceff", func := "ponder/ponderlaw18.PickStuck", spec := "pickStuck", unfollowed := true, recurses := true, apart := false, narrowed := true }
def PickStuckUptoSaid : Prop := pickStuckUptoRow.holds Try.pinned (OpenSpec.upto pickStuckSpec)

/-- 'ponderlaw18.PickWins', WHERE WHAT IT READS IS OF BULK AT MOST 1048576: true; the input reads as it did. -/
def pickWinsUptoRow : OpenClaim := { program := "ytljiooihhfndjaa", sum := "0f20ce238691ba4a7a81a76a175b23cd7379a83e688112b86543c2933e2bceff", func := "ponder/ponderlaw18.PickWins", spec := "pickWins", unfollowed := true, recurses := true, apart := false, narrowed := true }
def PickWinsUptoSaid : Prop := pickWinsUptoRow.holds Try.pinned (OpenSpec.upto pickWinsSpec)

end Rows
end Go.Proofs.Ytljiooihhfndjaa
