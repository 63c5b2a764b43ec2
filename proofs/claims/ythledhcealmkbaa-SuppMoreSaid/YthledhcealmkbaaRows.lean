/-
  No cell of these rows narrows 'for every input' (looked for: loops, veiled, ifaces, maps, wideKeys, modest, calm, conditions, laid).
  DERIVED. THE GIVEN ROWS OF THIS SEAT. 5 by the template 'for every input the law returns true; each argument reads behind the call as it read before'; 0 by the template 'total and deterministic' (their statements: YthledhcealmkbaaTotals.lean).
  GIVEN WITH THE SEED: the statements are not yours to turn. If you find one false, say at which input.
  Laid BY PROGRAM, IN A SANDBOX (cutbox-rows.mjs): the forced cells as the released guide's own fill.sh prints them over the translation a8ae89973bb2a0b1… (all of the seat's roots in one cut). By AI agents, Wed Nov 11 2026. No macro, syntax, notation, axiom, sorry.
-/
import Derived.Test.YthledhcealmkbaaChecked
import GoSem.Claim
import GoSem.ClaimJoined
import GoSem.ClaimMapViews
import Derived.JoinedTies
import Derived.KernelRfl
namespace Go.Proofs.Ythledhcealmkbaa
/- THE CELL 'sum', in the pinned program and in every row, IS THE sha256 OF THE DUMP (.gsa) THAT YthledhcealmkbaaProg.lean LOADS. Nothing in Lean hashes anything: it is a label: what it is worth is what the hold of that sum in a sandbox is worth. -/
noncomputable def Try.pinned : Pinned := { name := "ythledhcealmkbaa", sum := "a8ae89973bb2a0b13e495e7e256cf49de0591769bec123e9131317e32913f3c0", checked := Try.checked }
namespace Rows
def none {H : Type} : Left H := { results := [], args := [] }

/-- 'ponderlaw16.SuppLevels': WHATEVER THE INPUT: true; the input reads as it did. -/
def suppLevelsSpec : ChangeSpec := { name := "suppLevels", fn := fun _ => fun
  | [d] => { results := [.lit (.bool true)], args := [d] }
  | _ => none }
def suppLevelsRow : OpenClaim := { program := "ythledhcealmkbaa", sum := "a8ae89973bb2a0b13e495e7e256cf49de0591769bec123e9131317e32913f3c0", func := "ponder/ponderlaw16.SuppLevels", spec := "suppLevels", unfollowed := true, recurses := true, apart := false }
def SuppLevelsSaid : Prop := suppLevelsRow.holds Try.pinned (OpenSpec.ofChange suppLevelsSpec)

/-- ITS FALSE NEIGHBOUR: 'it returns false'. Refute it at one input. -/
def suppLevelsWrong : ChangeSpec := { name := "suppLevels", fn := fun _ => fun
  | [d] => { results := [.lit (.bool false)], args := [d] }
  | _ => none }
def SuppLevelsWrongFalsely : Prop := suppLevelsRow.holds Try.pinned (OpenSpec.ofChange suppLevelsWrong)

/-- 'ponderlaw16.SuppOs': WHATEVER THE INPUT: true; the input reads as it did. -/
def suppOsSpec : ChangeSpec := { name := "suppOs", fn := fun _ => fun
  | [d1, d2] => { results := [.lit (.bool true)], args := [d1, d2] }
  | _ => none }
def suppOsRow : OpenClaim := { program := "ythledhcealmkbaa", sum := "a8ae89973bb2a0b13e495e7e256cf49de0591769bec123e9131317e32913f3c0", func := "ponder/ponderlaw16.SuppOs", spec := "suppOs", unfollowed := true, recurses := true, apart := false }
def SuppOsSaid : Prop := suppOsRow.holds Try.pinned (OpenSpec.ofChange suppOsSpec)

/-- ITS FALSE NEIGHBOUR: 'it returns false'. Refute it at one input. -/
def suppOsWrong : ChangeSpec := { name := "suppOs", fn := fun _ => fun
  | [d1, d2] => { results := [.lit (.bool false)], args := [d1, d2] }
  | _ => none }
def SuppOsWrongFalsely : Prop := suppOsRow.holds Try.pinned (OpenSpec.ofChange suppOsWrong)

/-- 'ponderlaw16.SuppChosen': WHATEVER THE INPUT: true; the input reads as it did. -/
def suppChosenSpec : ChangeSpec := { name := "suppChosen", fn := fun _ => fun
  | [d1, d2] => { results := [.lit (.bool true)], args := [d1, d2] }
  | _ => none }
def suppChosenRow : OpenClaim := { program := "ythledhcealmkbaa", sum := "a8ae89973bb2a0b13e495e7e256cf49de0591769bec123e9131317e32913f3c0", func := "ponder/ponderlaw16.SuppChosen", spec := "suppChosen", unfollowed := true, recurses := true, apart := false }
def SuppChosenSaid : Prop := suppChosenRow.holds Try.pinned (OpenSpec.ofChange suppChosenSpec)

/-- ITS FALSE NEIGHBOUR: 'it returns false'. Refute it at one input. -/
def suppChosenWrong : ChangeSpec := { name := "suppChosen", fn := fun _ => fun
  | [d1, d2] => { results := [.lit (.bool false)], args := [d1, d2] }
  | _ => none }
def SuppChosenWrongFalsely : Prop := suppChosenRow.holds Try.pinned (OpenSpec.ofChange suppChosenWrong)

/-- 'ponderlaw16.SuppMore': WHATEVER THE INPUT: true; the input reads as it did. -/
def suppMoreSpec : ChangeSpec := { name := "suppMore", fn := fun _ => fun
  | [d1, d2, d3] => { results := [.lit (.bool true)], args := [d1, d2, d3] }
  | _ => none }
def suppMoreRow : OpenClaim := { program := "ythledhcealmkbaa", sum := "a8ae89973bb2a0b13e495e7e256cf49de0591769bec123e9131317e32913f3c0", func := "ponder/ponderlaw16.SuppMore", spec := "suppMore", unfollowed := true, recurses := true, apart := false }
def SuppMoreSaid : Prop := suppMoreRow.holds Try.pinned (OpenSpec.ofChange suppMoreSpec)

/-- ITS FALSE NEIGHBOUR: 'it returns false'. Refute it at one input. -/
def suppMoreWrong : ChangeSpec := { name := "suppMore", fn := fun _ => fun
  | [d1, d2, d3] => { results := [.lit (.bool false)], args := [d1, d2, d3] }
  | _ => none }
def SuppMoreWrongFalsely : Prop := suppMoreRow.holds Try.pinned (OpenSpec.ofChange suppMoreWrong)

/-- 'ponderlaw16.SuppSlots': WHATEVER THE INPUT: true; the input reads as it did. -/
def suppSlotsSpec : ChangeSpec := { name := "suppSlots", fn := fun _ => fun
  | [d1, d2, d3] => { results := [.lit (.bool true)], args := [d1, d2, d3] }
  | _ => none }
def suppSlotsRow : OpenClaim := { program := "ythledhcealmkbaa", sum := "a8ae89973bb2a0b13e495e7e256cf49de0591769bec123e9131317e32913f3c0", func := "ponder/ponderlaw16.SuppSlots", spec := "suppSlots", unfollowed := true, recurses := true, apart := false }
def SuppSlotsSaid : Prop := suppSlotsRow.holds Try.pinned (OpenSpec.ofChange suppSlotsSpec)

/-- ITS FALSE NEIGHBOUR: 'it returns false'. Refute it at one input. -/
def suppSlotsWrong : ChangeSpec := { name := "suppSlots", fn := fun _ => fun
  | [d1, d2, d3] => { results := [.lit (.bool false)], args := [d1, d2, d3] }
  | _ => none }
def SuppSlotsWrongFalsely : Prop := suppSlotsRow.holds Try.pinned (OpenSpec.ofChange suppSlotsWrong)

/- THE SECOND FORM. 'bulk': how many values and letters a reading holds, each counted each time it is reached (what is shared counts as often as it is met; a slice's spare places count too). A statement '..UptoSaid' is the law's where the arguments, and the package variables that the reading takes, are together of bulk at most 1048576: NARROWER than '..Said'. Prove '..Said' where nothing that the law and all that it calls make is longer than what came in: it says more and counts as full. Else prove '..UptoSaid'. A law counts once. -/
mutual
def uptoBulk {H : Type} : DataW H → Nat
  | .lit (.string bytes) => bytes.length + 1
  | .lit _ => 1
  | .nil => 1
  | .ptr d => uptoBulk d + 1
  | .slice elems spare => uptoBulkAll elems + uptoBulkAll spare + 1
  | .agg parts => uptoBulkAll parts + 1
  | .iface _ d => uptoBulk d + 1
  | .map entries => uptoBulkEntries entries + 1
  | .held _ => 1
def uptoBulkAll {H : Type} : List (DataW H) → Nat
  | [] => 0
  | d :: r => uptoBulk d + uptoBulkAll r
def uptoBulkEntries {H : Type} : List (Lit × DataW H) → Nat
  | [] => 0
  | x :: r => uptoBulkEntry x + uptoBulkEntries r
def uptoBulkEntry {H : Type} : Lit × DataW H → Nat
  | (.string bytes, d) => bytes.length + uptoBulk d + 1
  | (_, d) => uptoBulk d + 1
 end
def uptoSmall : (H : Type) → List (DataW H) → Bool := fun _ ds => decide (uptoBulkAll ds ≤ 1048576)
def OpenSpec.upto (s : _root_.Go.ChangeSpec) : _root_.Go.OpenSpec := { _root_.Go.OpenSpec.ofChange s with cond := some uptoSmall }

/-- 'ponderlaw16.SuppLevels', WHERE WHAT IT READS IS OF BULK AT MOST 1048576: true; the input reads as it did. -/
def suppLevelsUptoRow : OpenClaim := { program := "ythledhcealmkbaa", sum := "a8ae89973bb2a0b13e495e7e256cf49de0591769bec123e9131317e32913f3c0", func := "ponder/ponderlaw16.SuppLevels", spec := "suppLevels", unfollowed := true, recurses := true, apart := false, narrowed := true }
def SuppLevelsUptoSaid : Prop := suppLevelsUptoRow.holds Try.pinned (OpenSpec.upto suppLevelsSpec)

/-- 'ponderlaw16.SuppOs', WHERE WHAT IT READS IS OF BULK AT MOST 1048576: true; the input reads as it did. -/
def suppOsUptoRow : OpenClaim := { program := "ythledhcealmkbaa", sum := "a8ae89973bb2a0b13e495e7e256cf49de0591769bec123e9131317e32913f3c0", func := "ponder/ponderlaw16.SuppOs", spec := "suppOs", unfollowed := true, recurses := true, apart := false, narrowed := true }
def SuppOsUptoSaid : Prop := suppOsUptoRow.holds Try.pinned (OpenSpec.upto suppOsSpec)

/-- 'ponderlaw16.SuppChosen', WHERE WHAT IT READS IS OF BULK AT MOST 1048576: true; the input reads as it did. -/
def suppChosenUptoRow : OpenClaim := { program := "ythledhcealmkbaa", sum := "a8ae89973bb2a0b13e495e7e256cf49de0591769bec123e9131317e32913f3c0", func := "ponder/ponderlaw16.SuppChosen", spec := "suppChosen", unfollowed := true, recurses := true, apart := false, narrowed := true }
def SuppChosenUptoSaid : Prop := suppChosenUptoRow.holds Try.pinned (OpenSpec.upto suppChosenSpec)

/-- 'ponderlaw16.SuppMore', WHERE WHAT IT READS IS OF BULK AT MOST 1048576: true; the input reads as it did. -/
def suppMoreUptoRow : OpenClaim := { program := "ythledhcealmkbaa", sum := "a8ae89973bb2a0b13e495e7e256cf49de0591769bec123e9131317e32913f3c0", func := "ponder/ponderlaw16.SuppMore", spec := "suppMore", unfollowed := true, recurses := true, apart := false, narrowed := true }
def SuppMoreUptoSaid : Prop := suppMoreUptoRow.holds Try.pinned (OpenSpec.upto suppMoreSpec)

/-- 'ponderlaw16.SuppSlots', WHERE WHAT IT READS IS OF BULK AT MOST 1048576: true; the input reads as it did. -/
def suppSlotsUptoRow : OpenClaim := { program := "ythledhcealmkbaa", sum := "a8ae89973bb2a0b13e495e7e256cf49de0591769bec123e9131317e32913f3c0", func := "ponder/ponderlaw16.SuppSlots", spec := "suppSlots", unfollowed := true, recurses := true, apart := false, narrowed := true }
def SuppSlotsUptoSaid : Prop := suppSlotsUptoRow.holds Try.pinned (OpenSpec.upto suppSlotsSpec)

end Rows
end Go.Proofs.Ythledhcealmkbaa
