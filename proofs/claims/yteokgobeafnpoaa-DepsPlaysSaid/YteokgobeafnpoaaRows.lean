/-
  No cell of these rows narrows 'for every input' (looked for: loops, veiled, ifaces, maps, wideKeys, modest, calm, conditions, laid).
  DERIVED. THE GIVEN ROWS OF THIS SEAT. 5 by the template 'for every input the law returns true; each argument reads behind the call as it read before'; 0 by the template 'total and deterministic' (their statements: YteokgobeafnpoaaTotals.lean).
  GIVEN WITH THE SEED: the statements are not yours to turn. If you find one false, say at which input.
  Laid BY PROGRAM, IN A SANDBOX (cutbox-rows.mjs): the forced cells as the released guide's own fill.sh prints them over the translation 78e3cd0821415c6e… (all of the seat's roots in one cut). By AI agents, Wed Nov 11 2026. No macro, syntax, notation, axiom, sorry.
-/
import Derived.Test.YteokgobeafnpoaaChecked
import GoSem.Claim
import GoSem.ClaimJoined
import GoSem.ClaimMapViews
import Derived.JoinedTies
import Derived.KernelRfl
namespace Go.Proofs.Yteokgobeafnpoaa
/- THE CELL 'sum', in the pinned program and in every row, IS THE sha256 OF THE DUMP (.gsa) THAT YteokgobeafnpoaaProg.lean LOADS. Nothing in Lean hashes anything: it is a label: what it is worth is what the hold of that sum in a sandbox is worth. -/
noncomputable def Try.pinned : Pinned := { name := "yteokgobeafnpoaa", sum := "78e3cd0821415c6eebf5da70b323cd7f24d4f9bd1f69ac18b7f4d70193f08b8d", checked := Try.checked }
namespace Rows
def none {H : Type} : Left H := { results := [], args := [] }

/-- 'ponderlaw20.DepsHits': WHATEVER THE INPUT: true; the input reads as it did. -/
def depsHitsSpec : ChangeSpec := { name := "depsHits", fn := fun _ => fun
  | [d1, d2, d3] => { results := [.lit (.bool true)], args := [d1, d2, d3] }
  | _ => none }
def depsHitsRow : OpenClaim := { program := "yteokgobeafnpoaa", sum := "78e3cd0821415c6eebf5da70b323cd7f24d4f9bd1f69ac18b7f4d70193f08b8d", func := "ponder/ponderlaw20.DepsHits", spec := "depsHits", unfollowed := true, recurses := true, apart := false }
def DepsHitsSaid : Prop := depsHitsRow.holds Try.pinned (OpenSpec.ofChange depsHitsSpec)

/-- ITS FALSE NEIGHBOUR: 'it returns false'. Refute it at one input. -/
def depsHitsWrong : ChangeSpec := { name := "depsHits", fn := fun _ => fun
  | [d1, d2, d3] => { results := [.lit (.bool false)], args := [d1, d2, d3] }
  | _ => none }
def DepsHitsWrongFalsely : Prop := depsHitsRow.holds Try.pinned (OpenSpec.ofChange depsHitsWrong)

/-- 'ponderlaw20.DepsLeft': WHATEVER THE INPUT: true; the input reads as it did. -/
def depsLeftSpec : ChangeSpec := { name := "depsLeft", fn := fun _ => fun
  | [d1, d2, d3] => { results := [.lit (.bool true)], args := [d1, d2, d3] }
  | _ => none }
def depsLeftRow : OpenClaim := { program := "yteokgobeafnpoaa", sum := "78e3cd0821415c6eebf5da70b323cd7f24d4f9bd1f69ac18b7f4d70193f08b8d", func := "ponder/ponderlaw20.DepsLeft", spec := "depsLeft", unfollowed := true, recurses := true, apart := false }
def DepsLeftSaid : Prop := depsLeftRow.holds Try.pinned (OpenSpec.ofChange depsLeftSpec)

/-- ITS FALSE NEIGHBOUR: 'it returns false'. Refute it at one input. -/
def depsLeftWrong : ChangeSpec := { name := "depsLeft", fn := fun _ => fun
  | [d1, d2, d3] => { results := [.lit (.bool false)], args := [d1, d2, d3] }
  | _ => none }
def DepsLeftWrongFalsely : Prop := depsLeftRow.holds Try.pinned (OpenSpec.ofChange depsLeftWrong)

/-- 'ponderlaw20.DepsOrders': WHATEVER THE INPUT: true; the input reads as it did. -/
def depsOrdersSpec : ChangeSpec := { name := "depsOrders", fn := fun _ => fun
  | [d1, d2] => { results := [.lit (.bool true)], args := [d1, d2] }
  | _ => none }
def depsOrdersRow : OpenClaim := { program := "yteokgobeafnpoaa", sum := "78e3cd0821415c6eebf5da70b323cd7f24d4f9bd1f69ac18b7f4d70193f08b8d", func := "ponder/ponderlaw20.DepsOrders", spec := "depsOrders", unfollowed := true, recurses := true, apart := false }
def DepsOrdersSaid : Prop := depsOrdersRow.holds Try.pinned (OpenSpec.ofChange depsOrdersSpec)

/-- ITS FALSE NEIGHBOUR: 'it returns false'. Refute it at one input. -/
def depsOrdersWrong : ChangeSpec := { name := "depsOrders", fn := fun _ => fun
  | [d1, d2] => { results := [.lit (.bool false)], args := [d1, d2] }
  | _ => none }
def DepsOrdersWrongFalsely : Prop := depsOrdersRow.holds Try.pinned (OpenSpec.ofChange depsOrdersWrong)

/-- 'ponderlaw20.DepsCuts': WHATEVER THE INPUT: true; the input reads as it did. -/
def depsCutsSpec : ChangeSpec := { name := "depsCuts", fn := fun _ => fun
  | [d1, d2] => { results := [.lit (.bool true)], args := [d1, d2] }
  | _ => none }
def depsCutsRow : OpenClaim := { program := "yteokgobeafnpoaa", sum := "78e3cd0821415c6eebf5da70b323cd7f24d4f9bd1f69ac18b7f4d70193f08b8d", func := "ponder/ponderlaw20.DepsCuts", spec := "depsCuts", unfollowed := true, recurses := true, apart := false }
def DepsCutsSaid : Prop := depsCutsRow.holds Try.pinned (OpenSpec.ofChange depsCutsSpec)

/-- ITS FALSE NEIGHBOUR: 'it returns false'. Refute it at one input. -/
def depsCutsWrong : ChangeSpec := { name := "depsCuts", fn := fun _ => fun
  | [d1, d2] => { results := [.lit (.bool false)], args := [d1, d2] }
  | _ => none }
def DepsCutsWrongFalsely : Prop := depsCutsRow.holds Try.pinned (OpenSpec.ofChange depsCutsWrong)

/-- 'ponderlaw20.DepsPlays': WHATEVER THE INPUT: true; the input reads as it did. -/
def depsPlaysSpec : ChangeSpec := { name := "depsPlays", fn := fun _ => fun
  | [d] => { results := [.lit (.bool true)], args := [d] }
  | _ => none }
def depsPlaysRow : OpenClaim := { program := "yteokgobeafnpoaa", sum := "78e3cd0821415c6eebf5da70b323cd7f24d4f9bd1f69ac18b7f4d70193f08b8d", func := "ponder/ponderlaw20.DepsPlays", spec := "depsPlays", unfollowed := true, recurses := true, apart := false }
def DepsPlaysSaid : Prop := depsPlaysRow.holds Try.pinned (OpenSpec.ofChange depsPlaysSpec)

/-- ITS FALSE NEIGHBOUR: 'it returns false'. Refute it at one input. -/
def depsPlaysWrong : ChangeSpec := { name := "depsPlays", fn := fun _ => fun
  | [d] => { results := [.lit (.bool false)], args := [d] }
  | _ => none }
def DepsPlaysWrongFalsely : Prop := depsPlaysRow.holds Try.pinned (OpenSpec.ofChange depsPlaysWrong)

/- THE SECOND FORM. 'bulk': how many values and letters a reading holds, each counted each time it is reached (what is shared counts as often as it is met; a slice's spare places count too). A statement '..UptoSaid' is the law's where the arguments, and the package variables that the reading takes, are together of bulk at most 1048576: NARROWER than '..Said'. Prove '..Said' where nothing that the law and all that it calls make is longer than what came in: it says more and counts as full. Else prove '..UptoSaid'. A law counts once. -/
mutual
def uptoBulk {H : Type} : DataW H → Nat
  | .lit (.string bytes) => bytes.length + 1
  | .lit _ => 1
  | .nil => 1
  | .ptr d => uptoBulk d + 1
  | .slice elems spare => uptoBulkAll elems + uptoBulkAll spare + 1
  | .agg parts => uptoBulkAll parts + 1
  | .iface _ d => uptoBulk d + 1
  | .map entries => uptoBulkEntries entries + 1
  | .held _ => 1
def uptoBulkAll {H : Type} : List (DataW H) → Nat
  | [] => 0
  | d :: r => uptoBulk d + uptoBulkAll r
def uptoBulkEntries {H : Type} : List (Lit × DataW H) → Nat
  | [] => 0
  | x :: r => uptoBulkEntry x + uptoBulkEntries r
def uptoBulkEntry {H : Type} : Lit × DataW H → Nat
  | (.string bytes, d) => bytes.length + uptoBulk d + 1
  | (_, d) => uptoBulk d + 1
 end
def uptoSmall : (H : Type) → List (DataW H) → Bool := fun _ ds => decide (uptoBulkAll ds ≤ 1048576)
def OpenSpec.upto (s : _root_.Go.ChangeSpec) : _root_.Go.OpenSpec := { _root_.Go.OpenSpec.ofChange s with cond := some uptoSmall }

/-- 'ponderlaw20.DepsHits', WHERE WHAT IT READS IS OF BULK AT MOST 1048576: true; the input reads as it did. -/
def depsHitsUptoRow : OpenClaim := { program := "yteokgobeafnpoaa", sum := "78e3cd0821415c6eebf5da70b323cd7f24d4f9bd1f69ac18b7f4d70193f08b8d", func := "ponder/ponderlaw20.DepsHits", spec := "depsHits", unfollowed := true, recurses := true, apart := false, narrowed := true }
def DepsHitsUptoSaid : Prop := depsHitsUptoRow.holds Try.pinned (OpenSpec.upto depsHitsSpec)

/-- 'ponderlaw20.DepsLeft', WHERE WHAT IT READS IS OF BULK AT MOST 1048576: true; the input reads as it did. -/
def depsLeftUptoRow : OpenClaim := { program := "yteokgobeafnpoaa", sum := "78e3cd0821415c6eebf5da70b323cd7f24d4f9bd1f69ac18b7f4d70193f08b8d", func := "ponder/ponderlaw20.DepsLeft", spec := "depsLeft", unfollowed := true, recurses := true, apart := false, narrowed := true }
def DepsLeftUptoSaid : Prop := depsLeftUptoRow.holds Try.pinned (OpenSpec.upto depsLeftSpec)

/-- 'ponderlaw20.DepsOrders', WHERE WHAT IT READS IS OF BULK AT MOST 1048576: true; the input reads as it did. -/
def depsOrdersUptoRow : OpenClaim := { program := "yteokgobeafnpoaa", sum := "78e3cd0821415c6eebf5da70b323cd7f24d4f9bd1f69ac18b7f4d70193f08b8d", func := "ponder/ponderlaw20.DepsOrders", spec := "depsOrders", unfollowed := true, recurses := true, apart := false, narrowed := true }
def DepsOrdersUptoSaid : Prop := depsOrdersUptoRow.holds Try.pinned (OpenSpec.upto depsOrdersSpec)

/-- 'ponderlaw20.DepsCuts', WHERE WHAT IT READS IS OF BULK AT MOST 1048576: true; the input reads as it did. -/
def depsCutsUptoRow : OpenClaim := { program := "yteokgobeafnpoaa", sum := "78e3cd0821415c6eebf5da70b323cd7f24d4f9bd1f69ac18b7f4d70193f08b8d", func := "ponder/ponderlaw20.DepsCuts", spec := "depsCuts", unfollowed := true, recurses := true, apart := false, narrowed := true }
def DepsCutsUptoSaid : Prop := depsCutsUptoRow.holds Try.pinned (OpenSpec.upto depsCutsSpec)

/-- 'ponderlaw20.DepsPlays', WHERE WHAT IT READS IS OF BULK AT MOST 1048576: true; the input reads as it did. -/
def depsPlaysUptoRow : OpenClaim := { program := "yteokgobeafnpoaa", sum := "78e3cd0821415c6eebf5da70b323cd7f24d4f9bd1f69ac18b7f4d70193f08b8d", func := "ponder/ponderlaw20.DepsPlays", spec := "depsPlays", unfollowed := true, recurses := true, apart := false, narrowed := true }
def DepsPlaysUptoSaid : Prop := depsPlaysUptoRow.holds Try.pinned (OpenSpec.upto depsPlaysSpec)

end Rows
end Go.Proofs.Yteokgobeafnpoaa
