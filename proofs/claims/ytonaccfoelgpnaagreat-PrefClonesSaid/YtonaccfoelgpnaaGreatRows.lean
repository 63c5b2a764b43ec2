/-
  No cell of these rows narrows 'for every input' (looked for: loops, veiled, ifaces, maps, wideKeys, modest, calm, conditions, laid).
  DERIVED. THE GIVEN ROWS OF THIS SEAT. 2 by the template 'for every input the law returns true; each argument reads behind the call as it read before'; 0 by the template 'total and deterministic' (their statements: YtonaccfoelgpnaaGreatTotals.lean).
  GIVEN WITH THE SEED: the statements are not yours to turn. If you find one false, say at which input.
  Laid BY PROGRAM, IN A SANDBOX (cutbox-rows.mjs): the forced cells as the released guide's own fill.sh prints them over the translation 8ccf449ac6b11e82… (all of the seat's roots in one cut). By AI agents, Wed Nov 11 2026. No macro, syntax, notation, axiom, sorry.
-/
import Derived.Test.YtonaccfoelgpnaaGreatChecked
import GoSem.Claim
import GoSem.ClaimJoined
import GoSem.ClaimMapViews
import Derived.JoinedTies
import Derived.KernelRfl
namespace Go.Proofs.YtonaccfoelgpnaaGreat
/- THE CELL 'sum', in the pinned program and in every row, IS THE sha256 OF THE DUMP (.gsa) THAT YtonaccfoelgpnaaGreatProg.lean LOADS. Nothing in Lean hashes anything: it is a label: what it is worth is what the hold of that sum in a sandbox is worth. -/
noncomputable def Tryz.pinned : Pinned := { name := "ytonaccfoelgpnaagreat", sum := "8ccf449ac6b11e82245ebce36b34f66936da4cd0d16f076c5555d08cbe098336", checked := Tryz.checked }
namespace Rows
def none {H : Type} : Left H := { results := [], args := [] }

/-- 'ponderlaw17.PrefPlays': WHATEVER THE INPUT: true; the input reads as it did. -/
def prefPlaysSpec : ChangeSpec := { name := "prefPlays", fn := fun _ => fun
  | [d1, d2] => { results := [.lit (.bool true)], args := [d1, d2] }
  | _ => none }
def prefPlaysRow : OpenClaim := { program := "ytonaccfoelgpnaagreat", sum := "8ccf449ac6b11e82245ebce36b34f66936da4cd0d16f076c5555d08cbe098336", func := "ponder/ponderlaw17.PrefPlays", spec := "prefPlays", unfollowed := true, recurses := true, apart := false }
def PrefPlaysSaid : Prop := prefPlaysRow.holds Tryz.pinned (OpenSpec.ofChange prefPlaysSpec)

/-- ITS FALSE NEIGHBOUR: 'it returns false'. Refute it at one input. -/
def prefPlaysWrong : ChangeSpec := { name := "prefPlays", fn := fun _ => fun
  | [d1, d2] => { results := [.lit (.bool false)], args := [d1, d2] }
  | _ => none }
def PrefPlaysWrongFalsely : Prop := prefPlaysRow.holds Tryz.pinned (OpenSpec.ofChange prefPlaysWrong)

/-- 'ponderlaw17.PrefClones': WHATEVER THE INPUT: true; the input reads as it did. -/
def prefClonesSpec : ChangeSpec := { name := "prefClones", fn := fun _ => fun
  | [d1, d2, d3] => { results := [.lit (.bool true)], args := [d1, d2, d3] }
  | _ => none }
def prefClonesRow : OpenClaim := { program := "ytonaccfoelgpnaagreat", sum := "8ccf449ac6b11e82245ebce36b34f66936da4cd0d16f076c5555d08cbe098336", func := "ponder/ponderlaw17.PrefClones", spec := "prefClones", unfollowed := true, recurses := true, apart := false }
def PrefClonesSaid : Prop := prefClonesRow.holds Tryz.pinned (OpenSpec.ofChange prefClonesSpec)

/-- ITS FALSE NEIGHBOUR: 'it returns false'. Refute it at one input. -/
def prefClonesWrong : ChangeSpec := { name := "prefClones", fn := fun _ => fun
  | [d1, d2, d3] => { results := [.lit (.bool false)], args := [d1, d2, d3] }
  | _ => none }
def PrefClonesWrongFalsely : Prop := prefClonesRow.holds Tryz.pinned (OpenSpec.ofChange prefClonesWrong)

/- THE SECOND FORM. 'bulk': how many values and letters a reading holds, each counted each time it is reached (what is shared counts as often as it is met; a slice's spare places count too). A statement '..UptoSaid' is the law's where the arguments, and the package variables that the reading takes, are together of bulk at most 1048576: NARROWER than '..Said'. Prove '..Said' where nothing that the law and all that it calls make is longer than what came in: it says more and counts as full. Else prove '..UptoSaid'. A law counts once. -/
mutual
def uptoBulk {H : Type} : DataW H → Nat
  | .lit (.string bytes) => bytes.length + 1
  | .lit _ => 1
  | .nil => 1
  | .ptr d => uptoBulk d + 1
  | .slice elems spare => uptoBulkAll elems + uptoBulkAll spare + 1
  | .agg parts => uptoBulkAll parts + 1
  | .iface _ d => uptoBulk d + 1
  | .map entries => uptoBulkEntries entries + 1
  | .held _ => 1
def uptoBulkAll {H : Type} : List (DataW H) → Nat
  | [] => 0
  | d :: r => uptoBulk d + uptoBulkAll r
def uptoBulkEntries {H : Type} : List (Lit × DataW H) → Nat
  | [] => 0
  | x :: r => uptoBulkEntry x + uptoBulkEntries r
def uptoBulkEntry {H : Type} : Lit × DataW H → Nat
  | (.string bytes, d) => bytes.length + uptoBulk d + 1
  | (_, d) => uptoBulk d + 1
 end
def uptoSmall : (H : Type) → List (DataW H) → Bool := fun _ ds => decide (uptoBulkAll ds ≤ 1048576)
def OpenSpec.upto (s : _root_.Go.ChangeSpec) : _root_.Go.OpenSpec := { _root_.Go.OpenSpec.ofChange s with cond := some uptoSmall }

/-- 'ponderlaw17.PrefPlays', WHERE WHAT IT READS IS OF BULK AT MOST 1048576: true; the input reads as it did. -/
def prefPlaysUptoRow : OpenClaim := { program := "ytonaccfoelgpnaagreat", sum := "8ccf449ac6b11e82245ebce36b34f66936da4cd0d16f076c5555d08cbe098336", func := "ponder/ponderlaw17.PrefPlays", spec := "prefPlays", unfollowed := true, recurses := true, apart := false, narrowed := true }
def PrefPlaysUptoSaid : Prop := prefPlaysUptoRow.holds Tryz.pinned (OpenSpec.upto prefPlaysSpec)

/-- 'ponderlaw17.PrefClones', WHERE WHAT IT READS IS OF BULK AT MOST 1048576: true; the input reads as it did. -/
def prefClonesUptoRow : OpenClaim := { program := "ytonaccfoelgpnaagreat", sum := "8ccf449ac6b11e82245ebce36b34f66936da4cd0d16f076c5555d08cbe098336", func := "ponder/ponderlaw17.PrefClones", spec := "prefClones", unfollowed := true, recurses := true, apart := false, narrowed := true }
def PrefClonesUptoSaid : Prop := prefClonesUptoRow.holds Tryz.pinned (OpenSpec.upto prefClonesSpec)

end Rows
end Go.Proofs.YtonaccfoelgpnaaGreat
