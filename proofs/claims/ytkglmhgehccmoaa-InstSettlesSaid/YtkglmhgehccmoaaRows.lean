/-
  No cell of these rows narrows 'for every input' (looked for: loops, veiled, ifaces, maps, wideKeys, modest, calm, conditions, laid).
  DERIVED. THE GIVEN ROWS OF THIS SEAT. 5 by the template 'for every input the law returns true; each argument reads behind the call as it read before'; 0 by the template 'total and deterministic' (their statements: YtkglmhgehccmoaaTotals.lean).
  GIVEN WITH THE SEED: the statements are not yours to turn. If you find one false, say at which input.
  Laid BY PROGRAM, IN A SANDBOX (cutbox-rows.mjs): the forced cells as the released guide's own fill.sh prints them over the translation 2f2e74f8efa78431… (all of the seat's roots in one cut). By AI agents, Wed Nov 11 2026. No macro, syntax, notation, axiom, sorry.
-/
import Derived.Test.YtkglmhgehccmoaaChecked
import GoSem.Claim
import GoSem.ClaimJoined
import GoSem.ClaimMapViews
import Derived.JoinedTies
import Derived.KernelRfl
namespace Go.Proofs.Ytkglmhgehccmoaa
/- THE CELL 'sum', in the pinned program and in every row, IS THE sha256 OF THE DUMP (.gsa) THAT YtkglmhgehccmoaaProg.lean LOADS. Nothing in Lean hashes anything: it is a label: what it is worth is what the hold of that sum in a sandbox is worth. -/
noncomputable def Try.pinned : Pinned := { name := "ytkglmhgehccmoaa", sum := "2f2e74f8efa784315d78f7cd5f7f7de7ac6422e134f260f77f50f1c30aefefeb", checked := Try.checked }
namespace Rows
def none {H : Type} : Left H := { results := [], args := [] }

/-- 'ponderlaw14.InstCuts': WHATEVER THE INPUT: true; the input reads as it did. -/
def instCutsSpec : ChangeSpec := { name := "instCuts", fn := fun _ => fun
  | [d1, d2] => { results := [.lit (.bool true)], args := [d1, d2] }
  | _ => none }
def instCutsRow : OpenClaim := { program := "ytkglmhgehccmoaa", sum := "2f2e74f8efa784315d78f7cd5f7f7de7ac6422e134f260f77f50f1c30aefefeb", func := "ponder/ponderlaw14.InstCuts", spec := "instCuts", unfollowed := true, recurses := true, apart := false }
def InstCutsSaid : Prop := instCutsRow.holds Try.pinned (OpenSpec.ofChange instCutsSpec)

/-- ITS FALSE NEIGHBOUR: 'it returns false'. Refute it at one input. -/
def instCutsWrong : ChangeSpec := { name := "instCuts", fn := fun _ => fun
  | [d1, d2] => { results := [.lit (.bool false)], args := [d1, d2] }
  | _ => none }
def InstCutsWrongFalsely : Prop := instCutsRow.holds Try.pinned (OpenSpec.ofChange instCutsWrong)

/-- 'ponderlaw14.InstPlays': WHATEVER THE INPUT: true; the input reads as it did. -/
def instPlaysSpec : ChangeSpec := { name := "instPlays", fn := fun _ => fun
  | [d1, d2] => { results := [.lit (.bool true)], args := [d1, d2] }
  | _ => none }
def instPlaysRow : OpenClaim := { program := "ytkglmhgehccmoaa", sum := "2f2e74f8efa784315d78f7cd5f7f7de7ac6422e134f260f77f50f1c30aefefeb", func := "ponder/ponderlaw14.InstPlays", spec := "instPlays", unfollowed := true, recurses := true, apart := false }
def InstPlaysSaid : Prop := instPlaysRow.holds Try.pinned (OpenSpec.ofChange instPlaysSpec)

/-- ITS FALSE NEIGHBOUR: 'it returns false'. Refute it at one input. -/
def instPlaysWrong : ChangeSpec := { name := "instPlays", fn := fun _ => fun
  | [d1, d2] => { results := [.lit (.bool false)], args := [d1, d2] }
  | _ => none }
def InstPlaysWrongFalsely : Prop := instPlaysRow.holds Try.pinned (OpenSpec.ofChange instPlaysWrong)

/-- 'ponderlaw14.InstDiffs': WHATEVER THE INPUT: true; the input reads as it did. -/
def instDiffsSpec : ChangeSpec := { name := "instDiffs", fn := fun _ => fun
  | [d1, d2, d3] => { results := [.lit (.bool true)], args := [d1, d2, d3] }
  | _ => none }
def instDiffsRow : OpenClaim := { program := "ytkglmhgehccmoaa", sum := "2f2e74f8efa784315d78f7cd5f7f7de7ac6422e134f260f77f50f1c30aefefeb", func := "ponder/ponderlaw14.InstDiffs", spec := "instDiffs", unfollowed := true, recurses := true, apart := false }
def InstDiffsSaid : Prop := instDiffsRow.holds Try.pinned (OpenSpec.ofChange instDiffsSpec)

/-- ITS FALSE NEIGHBOUR: 'it returns false'. Refute it at one input. -/
def instDiffsWrong : ChangeSpec := { name := "instDiffs", fn := fun _ => fun
  | [d1, d2, d3] => { results := [.lit (.bool false)], args := [d1, d2, d3] }
  | _ => none }
def InstDiffsWrongFalsely : Prop := instDiffsRow.holds Try.pinned (OpenSpec.ofChange instDiffsWrong)

/-- 'ponderlaw14.InstSettles': WHATEVER THE INPUT: true; the input reads as it did. -/
def instSettlesSpec : ChangeSpec := { name := "instSettles", fn := fun _ => fun
  | [d1, d2, d3] => { results := [.lit (.bool true)], args := [d1, d2, d3] }
  | _ => none }
def instSettlesRow : OpenClaim := { program := "ytkglmhgehccmoaa", sum := "2f2e74f8efa784315d78f7cd5f7f7de7ac6422e134f260f77f50f1c30aefefeb", func := "ponder/ponderlaw14.InstSettles", spec := "instSettles", unfollowed := true, recurses := true, apart := false }
def InstSettlesSaid : Prop := instSettlesRow.holds Try.pinned (OpenSpec.ofChange instSettlesSpec)

/-- ITS FALSE NEIGHBOUR: 'it returns false'. Refute it at one input. -/
def instSettlesWrong : ChangeSpec := { name := "instSettles", fn := fun _ => fun
  | [d1, d2, d3] => { results := [.lit (.bool false)], args := [d1, d2, d3] }
  | _ => none }
def InstSettlesWrongFalsely : Prop := instSettlesRow.holds Try.pinned (OpenSpec.ofChange instSettlesWrong)

/-- 'ponderlaw14.InstClones': WHATEVER THE INPUT: true; the input reads as it did. -/
def instClonesSpec : ChangeSpec := { name := "instClones", fn := fun _ => fun
  | [d1, d2, d3] => { results := [.lit (.bool true)], args := [d1, d2, d3] }
  | _ => none }
def instClonesRow : OpenClaim := { program := "ytkglmhgehccmoaa", sum := "2f2e74f8efa784315d78f7cd5f7f7de7ac6422e134f260f77f50f1c30aefefeb", func := "ponder/ponderlaw14.InstClones", spec := "instClones", unfollowed := true, recurses := true, apart := false }
def InstClonesSaid : Prop := instClonesRow.holds Try.pinned (OpenSpec.ofChange instClonesSpec)

/-- ITS FALSE NEIGHBOUR: 'it returns false'. Refute it at one input. -/
def instClonesWrong : ChangeSpec := { name := "instClones", fn := fun _ => fun
  | [d1, d2, d3] => { results := [.lit (.bool false)], args := [d1, d2, d3] }
  | _ => none }
def InstClonesWrongFalsely : Prop := instClonesRow.holds Try.pinned (OpenSpec.ofChange instClonesWrong)

/- THE SECOND FORM. 'bulk': how many values and letters a reading holds, each counted each time it is reached (what is shared counts as often as it is met; a slice's spare places count too). A statement '..UptoSaid' is the law's where the arguments, and the package variables that the reading takes, are together of bulk at most 1048576: NARROWER than '..Said'. Prove '..Said' where nothing that the law and all that it calls make is longer than what came in: it says more and counts as full. Else prove '..UptoSaid'. A law counts once. -/
mutual
def uptoBulk {H : Type} : DataW H → Nat
  | .lit (.string bytes) => bytes.length + 1
  | .lit _ => 1
  | .nil => 1
  | .ptr d => uptoBulk d + 1
  | .slice elems spare => uptoBulkAll elems + uptoBulkAll spare + 1
  | .agg parts => uptoBulkAll parts + 1
  | .iface _ d => uptoBulk d + 1
  | .map entries => uptoBulkEntries entries + 1
  | .held _ => 1
def uptoBulkAll {H : Type} : List (DataW H) → Nat
  | [] => 0
  | d :: r => uptoBulk d + uptoBulkAll r
def uptoBulkEntries {H : Type} : List (Lit × DataW H) → Nat
  | [] => 0
  | x :: r => uptoBulkEntry x + uptoBulkEntries r
def uptoBulkEntry {H : Type} : Lit × DataW H → Nat
  | (.string bytes, d) => bytes.length + uptoBulk d + 1
  | (_, d) => uptoBulk d + 1
 end
def uptoSmall : (H : Type) → List (DataW H) → Bool := fun _ ds => decide (uptoBulkAll ds ≤ 1048576)
def OpenSpec.upto (s : _root_.Go.ChangeSpec) : _root_.Go.OpenSpec := { _root_.Go.OpenSpec.ofChange s with cond := some uptoSmall }

/-- 'ponderlaw14.InstCuts', WHERE WHAT IT READS IS OF BULK AT MOST 1048576: true; the input reads as it did. -/
def instCutsUptoRow : OpenClaim := { program := "ytkglmhgehccmoaa", sum := "2f2e74f8efa784315d78f7cd5f7f7de7ac6422e134f260f77f50f1c30aefefeb", func := "ponder/ponderlaw14.InstCuts", spec := "instCuts", unfollowed := true, recurses := true, apart := false, narrowed := true }
def InstCutsUptoSaid : Prop := instCutsUptoRow.holds Try.pinned (OpenSpec.upto instCutsSpec)

/-- 'ponderlaw14.InstPlays', WHERE WHAT IT READS IS OF BULK AT MOST 1048576: true; the input reads as it did. -/
def instPlaysUptoRow : OpenClaim := { program := "ytkglmhgehccmoaa", sum := "2f2e74f8efa784315d78f7cd5f7f7de7ac6422e134f260f77f50f1c30aefefeb", func := "ponder/ponderlaw14.InstPlays", spec := "instPlays", unfollowed := true, recurses := true, apart := false, narrowed := true }
def InstPlaysUptoSaid : Prop := instPlaysUptoRow.holds Try.pinned (OpenSpec.upto instPlaysSpec)

/-- 'ponderlaw14.InstDiffs', WHERE WHAT IT READS IS OF BULK AT MOST 1048576: true; the input reads as it did. -/
def instDiffsUptoRow : OpenClaim := { program := "ytkglmhgehccmoaa", sum := "2f2e74f8efa784315d78f7cd5f7f7de7ac6422e134f260f77f50f1c30aefefeb", func := "ponder/ponderlaw14.InstDiffs", spec := "instDiffs", unfollowed := true, recurses := true, apart := false, narrowed := true }
def InstDiffsUptoSaid : Prop := instDiffsUptoRow.holds Try.pinned (OpenSpec.upto instDiffsSpec)

/-- 'ponderlaw14.InstSettles', WHERE WHAT IT READS IS OF BULK AT MOST 1048576: true; the input reads as it did. -/
def instSettlesUptoRow : OpenClaim := { program := "ytkglmhgehccmoaa", sum := "2f2e74f8efa784315d78f7cd5f7f7de7ac6422e134f260f77f50f1c30aefefeb", func := "ponder/ponderlaw14.InstSettles", spec := "instSettles", unfollowed := true, recurses := true, apart := false, narrowed := true }
def InstSettlesUptoSaid : Prop := instSettlesUptoRow.holds Try.pinned (OpenSpec.upto instSettlesSpec)

/-- 'ponderlaw14.InstClones', WHERE WHAT IT READS IS OF BULK AT MOST 1048576: true; the input reads as it did. -/
def instClonesUptoRow : OpenClaim := { program := "ytkglmhgehccmoaa", sum := "2f2e74f8efa784315d78f7cd5f7f7de7ac6422e134f260f77f50f1c30aefefeb", func := "ponder/ponderlaw14.InstClones", spec := "instClones", unfollowed := true, recurses := true, apart := false, narrowed := true }
def InstClonesUptoSaid : Prop := instClonesUptoRow.holds Try.pinned (OpenSpec.upto instClonesSpec)

end Rows
end Go.Proofs.Ytkglmhgehccmoaa
