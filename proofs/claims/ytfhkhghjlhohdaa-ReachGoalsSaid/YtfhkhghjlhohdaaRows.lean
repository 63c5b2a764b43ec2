/-
  No cell of these rows narrows 'for every input' (looked for: loops, veiled, ifaces, maps, wideKeys, modest, calm, conditions, laid).
  DERIVED. THE GIVEN ROWS OF THIS SEAT. 6 by the template 'for every input the law returns true; each argument reads behind the call as it read before'; 0 by the template 'total and deterministic' (their statements: YtfhkhghjlhohdaaTotals.lean).
  GIVEN WITH THE SEED: the statements are not yours to turn. If you find one false, say at which input.
  Laid BY PROGRAM, IN A SANDBOX (cutbox-rows.mjs): the forced cells as the released guide's own fill.sh prints them over the translation bbe1a157a2e2e6a1… (all of the seat's roots in one cut). By AI agents, Wed Nov 11 2026. No macro, syntax, notation, axiom, sorry.
-/
import Derived.Test.YtfhkhghjlhohdaaChecked
import GoSem.Claim
import GoSem.ClaimJoined
import GoSem.ClaimMapViews
import Derived.JoinedTies
import Derived.KernelRfl
namespace Go.Proofs.Ytfhkhghjlhohdaa
/- THE CELL 'sum', in the pinned program and in every row, IS THE sha256 OF THE DUMP (.gsa) THAT YtfhkhghjlhohdaaProg.lean LOADS. Nothing in Lean hashes anything: it is a label: what it is worth is what the hold of that sum in a sandbox is worth. -/
noncomputable def Try.pinned : Pinned := { name := "ytfhkhghjlhohdaa", sum := "bbe1a157a2e2e6a11047928fdad838d0978bc7aee05ea493de8f98ebbfc54cf0", checked := Try.checked }
namespace Rows
def none {H : Type} : Left H := { results := [], args := [] }

/-- 'ponderlaw11.ReachOne': WHATEVER THE INPUT: true; the input reads as it did. -/
def reachOneSpec : ChangeSpec := { name := "reachOne", fn := fun _ => fun
  | [d1, d2, d3] => { results := [.lit (.bool true)], args := [d1, d2, d3] }
  | _ => none }
def reachOneRow : OpenClaim := { program := "ytfhkhghjlhohdaa", sum := "bbe1a157a2e2e6a11047928fdad838d0978bc7aee05ea493de8f98ebbfc54cf0", func := "ponder/ponderlaw11.ReachOne", spec := "reachOne", unfollowed := true, recurses := true, apart := false }
def ReachOneSaid : Prop := reachOneRow.holds Try.pinned (OpenSpec.ofChange reachOneSpec)

/-- ITS FALSE NEIGHBOUR: 'it returns false'. Refute it at one input. -/
def reachOneWrong : ChangeSpec := { name := "reachOne", fn := fun _ => fun
  | [d1, d2, d3] => { results := [.lit (.bool false)], args := [d1, d2, d3] }
  | _ => none }
def ReachOneWrongFalsely : Prop := reachOneRow.holds Try.pinned (OpenSpec.ofChange reachOneWrong)

/-- 'ponderlaw11.ReachMore': WHATEVER THE INPUT: true; the input reads as it did. -/
def reachMoreSpec : ChangeSpec := { name := "reachMore", fn := fun _ => fun
  | [d1, d2, d3, d4] => { results := [.lit (.bool true)], args := [d1, d2, d3, d4] }
  | _ => none }
def reachMoreRow : OpenClaim := { program := "ytfhkhghjlhohdaa", sum := "bbe1a157a2e2e6a11047928fdad838d0978bc7aee05ea493de8f98ebbfc54cf0", func := "ponder/ponderlaw11.ReachMore", spec := "reachMore", unfollowed := true, recurses := true, apart := false }
def ReachMoreSaid : Prop := reachMoreRow.holds Try.pinned (OpenSpec.ofChange reachMoreSpec)

/-- ITS FALSE NEIGHBOUR: 'it returns false'. Refute it at one input. -/
def reachMoreWrong : ChangeSpec := { name := "reachMore", fn := fun _ => fun
  | [d1, d2, d3, d4] => { results := [.lit (.bool false)], args := [d1, d2, d3, d4] }
  | _ => none }
def ReachMoreWrongFalsely : Prop := reachMoreRow.holds Try.pinned (OpenSpec.ofChange reachMoreWrong)

/-- 'ponderlaw11.ReachGoals': WHATEVER THE INPUT: true; the input reads as it did. -/
def reachGoalsSpec : ChangeSpec := { name := "reachGoals", fn := fun _ => fun
  | [d1, d2, d3] => { results := [.lit (.bool true)], args := [d1, d2, d3] }
  | _ => none }
def reachGoalsRow : OpenClaim := { program := "ytfhkhghjlhohdaa", sum := "bbe1a157a2e2e6a11047928fdad838d0978bc7aee05ea493de8f98ebbfc54cf0", func := "ponder/ponderlaw11.ReachGoals", spec := "reachGoals", unfollowed := true, recurses := true, apart := false }
def ReachGoalsSaid : Prop := reachGoalsRow.holds Try.pinned (OpenSpec.ofChange reachGoalsSpec)

/-- ITS FALSE NEIGHBOUR: 'it returns false'. Refute it at one input. -/
def reachGoalsWrong : ChangeSpec := { name := "reachGoals", fn := fun _ => fun
  | [d1, d2, d3] => { results := [.lit (.bool false)], args := [d1, d2, d3] }
  | _ => none }
def ReachGoalsWrongFalsely : Prop := reachGoalsRow.holds Try.pinned (OpenSpec.ofChange reachGoalsWrong)

/-- 'ponderlaw11.ReachSteps': WHATEVER THE INPUT: true; the input reads as it did. -/
def reachStepsSpec : ChangeSpec := { name := "reachSteps", fn := fun _ => fun
  | [d1, d2] => { results := [.lit (.bool true)], args := [d1, d2] }
  | _ => none }
def reachStepsRow : OpenClaim := { program := "ytfhkhghjlhohdaa", sum := "bbe1a157a2e2e6a11047928fdad838d0978bc7aee05ea493de8f98ebbfc54cf0", func := "ponder/ponderlaw11.ReachSteps", spec := "reachSteps", unfollowed := true, recurses := true, apart := false }
def ReachStepsSaid : Prop := reachStepsRow.holds Try.pinned (OpenSpec.ofChange reachStepsSpec)

/-- ITS FALSE NEIGHBOUR: 'it returns false'. Refute it at one input. -/
def reachStepsWrong : ChangeSpec := { name := "reachSteps", fn := fun _ => fun
  | [d1, d2] => { results := [.lit (.bool false)], args := [d1, d2] }
  | _ => none }
def ReachStepsWrongFalsely : Prop := reachStepsRow.holds Try.pinned (OpenSpec.ofChange reachStepsWrong)

/-- 'ponderlaw11.ReachLevels': WHATEVER THE INPUT: true; the input reads as it did. -/
def reachLevelsSpec : ChangeSpec := { name := "reachLevels", fn := fun _ => fun
  | [d1, d2] => { results := [.lit (.bool true)], args := [d1, d2] }
  | _ => none }
def reachLevelsRow : OpenClaim := { program := "ytfhkhghjlhohdaa", sum := "bbe1a157a2e2e6a11047928fdad838d0978bc7aee05ea493de8f98ebbfc54cf0", func := "ponder/ponderlaw11.ReachLevels", spec := "reachLevels", unfollowed := true, recurses := true, apart := false }
def ReachLevelsSaid : Prop := reachLevelsRow.holds Try.pinned (OpenSpec.ofChange reachLevelsSpec)

/-- ITS FALSE NEIGHBOUR: 'it returns false'. Refute it at one input. -/
def reachLevelsWrong : ChangeSpec := { name := "reachLevels", fn := fun _ => fun
  | [d1, d2] => { results := [.lit (.bool false)], args := [d1, d2] }
  | _ => none }
def ReachLevelsWrongFalsely : Prop := reachLevelsRow.holds Try.pinned (OpenSpec.ofChange reachLevelsWrong)

/-- 'ponderlaw11.ReachLive': WHATEVER THE INPUT: true; the input reads as it did. -/
def reachLiveSpec : ChangeSpec := { name := "reachLive", fn := fun _ => fun
  | [d1, d2, d3] => { results := [.lit (.bool true)], args := [d1, d2, d3] }
  | _ => none }
def reachLiveRow : OpenClaim := { program := "ytfhkhghjlhohdaa", sum := "bbe1a157a2e2e6a11047928fdad838d0978bc7aee05ea493de8f98ebbfc54cf0", func := "ponder/ponderlaw11.ReachLive", spec := "reachLive", unfollowed := true, recurses := true, apart := false }
def ReachLiveSaid : Prop := reachLiveRow.holds Try.pinned (OpenSpec.ofChange reachLiveSpec)

/-- ITS FALSE NEIGHBOUR: 'it returns false'. Refute it at one input. -/
def reachLiveWrong : ChangeSpec := { name := "reachLive", fn := fun _ => fun
  | [d1, d2, d3] => { results := [.lit (.bool false)], args := [d1, d2, d3] }
  | _ => none }
def ReachLiveWrongFalsely : Prop := reachLiveRow.holds Try.pinned (OpenSpec.ofChange reachLiveWrong)

/- THE SECOND FORM. 'bulk': how many values and letters a reading holds, each counted each time it is reached (what is shared counts as often as it is met; a slice's spare places count too). A statement '..UptoSaid' is the law's where the arguments, and the package variables that the reading takes, are together of bulk at most 1048576: NARROWER than '..Said'. Prove '..Said' where nothing that the law and all that it calls make is longer than what came in: it says more and counts as full. Else prove '..UptoSaid'. A law counts once. -/
mutual
def uptoBulk {H : Type} : DataW H → Nat
  | .lit (.string bytes) => bytes.length + 1
  | .lit _ => 1
  | .nil => 1
  | .ptr d => uptoBulk d + 1
  | .slice elems spare => uptoBulkAll elems + uptoBulkAll spare + 1
  | .agg parts => uptoBulkAll parts + 1
  | .iface _ d => uptoBulk d + 1
  | .map entries => uptoBulkEntries entries + 1
  | .held _ => 1
def uptoBulkAll {H : Type} : List (DataW H) → Nat
  | [] => 0
  | d :: r => uptoBulk d + uptoBulkAll r
def uptoBulkEntries {H : Type} : List (Lit × DataW H) → Nat
  | [] => 0
  | x :: r => uptoBulkEntry x + uptoBulkEntries r
def uptoBulkEntry {H : Type} : Lit × DataW H → Nat
  | (.string bytes, d) => bytes.length + uptoBulk d + 1
  | (_, d) => uptoBulk d + 1
 end
def uptoSmall : (H : Type) → List (DataW H) → Bool := fun _ ds => decide (uptoBulkAll ds ≤ 1048576)
def OpenSpec.upto (s : _root_.Go.ChangeSpec) : _root_.Go.OpenSpec := { _root_.Go.OpenSpec.ofChange s with cond := some uptoSmall }

/-- 'ponderlaw11.ReachOne', WHERE WHAT IT READS IS OF BULK AT MOST 1048576: true; the input reads as it did. -/
def reachOneUptoRow : OpenClaim := { program := "ytfhkhghjlhohdaa", sum := "bbe1a157a2e2e6a11047928fdad838d0978bc7aee05ea493de8f98ebbfc54cf0", func := "ponder/ponderlaw11.ReachOne", spec := "reachOne", unfollowed := true, recurses := true, apart := false, narrowed := true }
def ReachOneUptoSaid : Prop := reachOneUptoRow.holds Try.pinned (OpenSpec.upto reachOneSpec)

/-- 'ponderlaw11.ReachMore', WHERE WHAT IT READS IS OF BULK AT MOST 1048576: true; the input reads as it did. -/
def reachMoreUptoRow : OpenClaim := { program := "ytfhkhghjlhohdaa", sum := "bbe1a157a2e2e6a11047928fdad838d0978bc7aee05ea493de8f98ebbfc54cf0", func := "ponder/ponderlaw11.ReachMore", spec := "reachMore", unfollowed := true, recurses := true, apart := false, narrowed := true }
def ReachMoreUptoSaid : Prop := reachMoreUptoRow.holds Try.pinned (OpenSpec.upto reachMoreSpec)

/-- 'ponderlaw11.ReachGoals', WHERE WHAT IT READS IS OF BULK AT MOST 1048576: true; the input reads as it did. -/
def reachGoalsUptoRow : OpenClaim := { program := "ytfhkhghjlhohdaa", sum := "bbe1a157a2e2e6a11047928fdad838d0978bc7aee05ea493de8f98ebbfc54cf0", func := "ponder/ponderlaw11.ReachGoals", spec := "reachGoals", unfollowed := true, recurses := true, apart := false, narrowed := true }
def ReachGoalsUptoSaid : Prop := reachGoalsUptoRow.holds Try.pinned (OpenSpec.upto reachGoalsSpec)

/-- 'ponderlaw11.ReachSteps', WHERE WHAT IT READS IS OF BULK AT MOST 1048576: true; the input reads as it did. -/
def reachStepsUptoRow : OpenClaim := { program := "ytfhkhghjlhohdaa", sum := "bbe1a157a2e2e6a11047928fdad838d0978bc7aee05ea493de8f98ebbfc54cf0", func := "ponder/ponderlaw11.ReachSteps", spec := "reachSteps", unfollowed := true, recurses := true, apart := false, narrowed := true }
def ReachStepsUptoSaid : Prop := reachStepsUptoRow.holds Try.pinned (OpenSpec.upto reachStepsSpec)

/-- 'ponderlaw11.ReachLevels', WHERE WHAT IT READS IS OF BULK AT MOST 1048576: true; the input reads as it did. -/
def reachLevelsUptoRow : OpenClaim := { program := "ytfhkhghjlhohdaa", sum := "bbe1a157a2e2e6a11047928fdad838d0978bc7aee05ea493de8f98ebbfc54cf0", func := "ponder/ponderlaw11.ReachLevels", spec := "reachLevels", unfollowed := true, recurses := true, apart := false, narrowed := true }
def ReachLevelsUptoSaid : Prop := reachLevelsUptoRow.holds Try.pinned (OpenSpec.upto reachLevelsSpec)

/-- 'ponderlaw11.ReachLive', WHERE WHAT IT READS IS OF BULK AT MOST 1048576: true; the input reads as it did. -/
def reachLiveUptoRow : OpenClaim := { program := "ytfhkhghjlhohdaa", sum := "bbe1a157a2e2e6a11047928fdad838d0978bc7aee05ea493de8f98ebbfc54cf0", func := "ponder/ponderlaw11.ReachLive", spec := "reachLive", unfollowed := true, recurses := true, apart := false, narrowed := true }
def ReachLiveUptoSaid : Prop := reachLiveUptoRow.holds Try.pinned (OpenSpec.upto reachLiveSpec)

end Rows
end Go.Proofs.Ytfhkhghjlhohdaa
