/-
  No cell of these rows narrows 'for every input' (looked for: loops, veiled, ifaces, maps, wideKeys, modest, calm, conditions, laid).
  DERIVED. THE GIVEN ROWS OF THIS SEAT. 23 by the template 'for every input the law returns true; each argument reads behind the call as it read before'; 0 by the template 'total and deterministic' (their statements: YtfakoemkapankaaTotals.lean).
  GIVEN WITH THE SEED: the statements are not yours to turn. If you find one false, say at which input.
  Laid BY PROGRAM, IN A SANDBOX (cutbox-rows.mjs): the forced cells as the released guide's own fill.sh prints them over the translation b0c386c02ab71f02… (all of the seat's roots in one cut). By AI agents, Wed Nov 11 2026. No macro, syntax, notation, axiom, sorry.
-/
import Derived.Test.YtfakoemkapankaaChecked
import GoSem.Claim
import GoSem.ClaimJoined
import GoSem.ClaimMapViews
import Derived.JoinedTies
import Derived.KernelRfl
namespace Go.Proofs.Ytfakoemkapankaa
/- THE CELL 'sum', in the pinned program and in every row, IS THE sha256 OF THE DUMP (.gsa) THAT YtfakoemkapankaaProg.lean LOADS. Nothing in Lean hashes anything: it is a label: what it is worth is what the hold of that sum in a sandbox is worth. -/
noncomputable def Try.pinned : Pinned := { name := "ytfakoemkapankaa", sum := "b0c386c02ab71f026be15b8e96c014d0cc0f0b5d7fc0afcb31ba57a1cf91e0c7", checked := Try.checked }
namespace Rows
def none {H : Type} : Left H := { results := [], args := [] }

/-- 'ponderlaw11.ReachOne': WHATEVER THE INPUT: true; the input reads as it did. -/
def reachOneSpec : ChangeSpec := { name := "reachOne", fn := fun _ => fun
  | [d1, d2, d3] => { results := [.lit (.bool true)], args := [d1, d2, d3] }
  | _ => none }
def reachOneRow : OpenClaim := { program := "ytfakoemkapankaa", sum := "b0c386c02ab71f026be15b8e96c014d0cc0f0b5d7fc0afcb31ba57a1cf91e0c7", func := "ponder/ponderlaw11.ReachOne", spec := "reachOne", unfollowed := true, recurses := true, apart := false }
def ReachOneSaid : Prop := reachOneRow.holds Try.pinned (OpenSpec.ofChange reachOneSpec)

/-- ITS FALSE NEIGHBOUR: 'it returns false'. Refute it at one input. -/
def reachOneWrong : ChangeSpec := { name := "reachOne", fn := fun _ => fun
  | [d1, d2, d3] => { results := [.lit (.bool false)], args := [d1, d2, d3] }
  | _ => none }
def ReachOneWrongFalsely : Prop := reachOneRow.holds Try.pinned (OpenSpec.ofChange reachOneWrong)

/-- 'ponderlaw11.ReachMore': WHATEVER THE INPUT: true; the input reads as it did. -/
def reachMoreSpec : ChangeSpec := { name := "reachMore", fn := fun _ => fun
  | [d1, d2, d3, d4] => { results := [.lit (.bool true)], args := [d1, d2, d3, d4] }
  | _ => none }
def reachMoreRow : OpenClaim := { program := "ytfakoemkapankaa", sum := "b0c386c02ab71f026be15b8e96c014d0cc0f0b5d7fc0afcb31ba57a1cf91e0c7", func := "ponder/ponderlaw11.ReachMore", spec := "reachMore", unfollowed := true, recurses := true, apart := false }
def ReachMoreSaid : Prop := reachMoreRow.holds Try.pinned (OpenSpec.ofChange reachMoreSpec)

/-- ITS FALSE NEIGHBOUR: 'it returns false'. Refute it at one input. -/
def reachMoreWrong : ChangeSpec := { name := "reachMore", fn := fun _ => fun
  | [d1, d2, d3, d4] => { results := [.lit (.bool false)], args := [d1, d2, d3, d4] }
  | _ => none }
def ReachMoreWrongFalsely : Prop := reachMoreRow.holds Try.pinned (OpenSpec.ofChange reachMoreWrong)

/-- 'ponderlaw11.ReachGoals': WHATEVER THE INPUT: true; the input reads as it did. -/
def reachGoalsSpec : ChangeSpec := { name := "reachGoals", fn := fun _ => fun
  | [d1, d2, d3] => { results := [.lit (.bool true)], args := [d1, d2, d3] }
  | _ => none }
def reachGoalsRow : OpenClaim := { program := "ytfakoemkapankaa", sum := "b0c386c02ab71f026be15b8e96c014d0cc0f0b5d7fc0afcb31ba57a1cf91e0c7", func := "ponder/ponderlaw11.ReachGoals", spec := "reachGoals", unfollowed := true, recurses := true, apart := false }
def ReachGoalsSaid : Prop := reachGoalsRow.holds Try.pinned (OpenSpec.ofChange reachGoalsSpec)

/-- ITS FALSE NEIGHBOUR: 'it returns false'. Refute it at one input. -/
def reachGoalsWrong : ChangeSpec := { name := "reachGoals", fn := fun _ => fun
  | [d1, d2, d3] => { results := [.lit (.bool false)], args := [d1, d2, d3] }
  | _ => none }
def ReachGoalsWrongFalsely : Prop := reachGoalsRow.holds Try.pinned (OpenSpec.ofChange reachGoalsWrong)

/-- 'ponderlaw11.ReachSteps': WHATEVER THE INPUT: true; the input reads as it did. -/
def reachStepsSpec : ChangeSpec := { name := "reachSteps", fn := fun _ => fun
  | [d1, d2] => { results := [.lit (.bool true)], args := [d1, d2] }
  | _ => none }
def reachStepsRow : OpenClaim := { program := "ytfakoemkapankaa", sum := "b0c386c02ab71f026be15b8e96c014d0cc0f0b5d7fc0afcb31ba57a1cf91e0c7", func := "ponder/ponderlaw11.ReachSteps", spec := "reachSteps", unfollowed := true, recurses := true, apart := false }
def ReachStepsSaid : Prop := reachStepsRow.holds Try.pinned (OpenSpec.ofChange reachStepsSpec)

/-- ITS FALSE NEIGHBOUR: 'it returns false'. Refute it at one input. -/
def reachStepsWrong : ChangeSpec := { name := "reachSteps", fn := fun _ => fun
  | [d1, d2] => { results := [.lit (.bool false)], args := [d1, d2] }
  | _ => none }
def ReachStepsWrongFalsely : Prop := reachStepsRow.holds Try.pinned (OpenSpec.ofChange reachStepsWrong)

/-- 'ponderlaw11.ReachLevels': WHATEVER THE INPUT: true; the input reads as it did. -/
def reachLevelsSpec : ChangeSpec := { name := "reachLevels", fn := fun _ => fun
  | [d1, d2] => { results := [.lit (.bool true)], args := [d1, d2] }
  | _ => none }
def reachLevelsRow : OpenClaim := { program := "ytfakoemkapankaa", sum := "b0c386c02ab71f026be15b8e96c014d0cc0f0b5d7fc0afcb31ba57a1cf91e0c7", func := "ponder/ponderlaw11.ReachLevels", spec := "reachLevels", unfollowed := true, recurses := true, apart := false }
def ReachLevelsSaid : Prop := reachLevelsRow.holds Try.pinned (OpenSpec.ofChange reachLevelsSpec)

/-- ITS FALSE NEIGHBOUR: 'it returns false'. Refute it at one input. -/
def reachLevelsWrong : ChangeSpec := { name := "reachLevels", fn := fun _ => fun
  | [d1, d2] => { results := [.lit (.bool false)], args := [d1, d2] }
  | _ => none }
def ReachLevelsWrongFalsely : Prop := reachLevelsRow.holds Try.pinned (OpenSpec.ofChange reachLevelsWrong)

/-- 'ponderlaw11.ReachLive': WHATEVER THE INPUT: true; the input reads as it did. -/
def reachLiveSpec : ChangeSpec := { name := "reachLive", fn := fun _ => fun
  | [d1, d2, d3] => { results := [.lit (.bool true)], args := [d1, d2, d3] }
  | _ => none }
def reachLiveRow : OpenClaim := { program := "ytfakoemkapankaa", sum := "b0c386c02ab71f026be15b8e96c014d0cc0f0b5d7fc0afcb31ba57a1cf91e0c7", func := "ponder/ponderlaw11.ReachLive", spec := "reachLive", unfollowed := true, recurses := true, apart := false }
def ReachLiveSaid : Prop := reachLiveRow.holds Try.pinned (OpenSpec.ofChange reachLiveSpec)

/-- ITS FALSE NEIGHBOUR: 'it returns false'. Refute it at one input. -/
def reachLiveWrong : ChangeSpec := { name := "reachLive", fn := fun _ => fun
  | [d1, d2, d3] => { results := [.lit (.bool false)], args := [d1, d2, d3] }
  | _ => none }
def ReachLiveWrongFalsely : Prop := reachLiveRow.holds Try.pinned (OpenSpec.ofChange reachLiveWrong)

/-- 'ponderlaw10.MemWords': WHATEVER THE INPUT: true; the input reads as it did. -/
def memWordsSpec : ChangeSpec := { name := "memWords", fn := fun _ => fun
  | [d] => { results := [.lit (.bool true)], args := [d] }
  | _ => none }
def memWordsRow : OpenClaim := { program := "ytfakoemkapankaa", sum := "b0c386c02ab71f026be15b8e96c014d0cc0f0b5d7fc0afcb31ba57a1cf91e0c7", func := "ponder/ponderlaw10.MemWords", spec := "memWords", unfollowed := true, recurses := true, apart := false }
def MemWordsSaid : Prop := memWordsRow.holds Try.pinned (OpenSpec.ofChange memWordsSpec)

/-- ITS FALSE NEIGHBOUR: 'it returns false'. Refute it at one input. -/
def memWordsWrong : ChangeSpec := { name := "memWords", fn := fun _ => fun
  | [d] => { results := [.lit (.bool false)], args := [d] }
  | _ => none }
def MemWordsWrongFalsely : Prop := memWordsRow.holds Try.pinned (OpenSpec.ofChange memWordsWrong)

/-- 'ponderlaw10.MemRooms': WHATEVER THE INPUT: true; the input reads as it did. -/
def memRoomsSpec : ChangeSpec := { name := "memRooms", fn := fun _ => fun
  | [d1, d2, d3] => { results := [.lit (.bool true)], args := [d1, d2, d3] }
  | _ => none }
def memRoomsRow : OpenClaim := { program := "ytfakoemkapankaa", sum := "b0c386c02ab71f026be15b8e96c014d0cc0f0b5d7fc0afcb31ba57a1cf91e0c7", func := "ponder/ponderlaw10.MemRooms", spec := "memRooms", unfollowed := true, recurses := true, apart := false }
def MemRoomsSaid : Prop := memRoomsRow.holds Try.pinned (OpenSpec.ofChange memRoomsSpec)

/-- ITS FALSE NEIGHBOUR: 'it returns false'. Refute it at one input. -/
def memRoomsWrong : ChangeSpec := { name := "memRooms", fn := fun _ => fun
  | [d1, d2, d3] => { results := [.lit (.bool false)], args := [d1, d2, d3] }
  | _ => none }
def MemRoomsWrongFalsely : Prop := memRoomsRow.holds Try.pinned (OpenSpec.ofChange memRoomsWrong)

/-- 'ponderlaw10.MemOrders': WHATEVER THE INPUT: true; the input reads as it did. -/
def memOrdersSpec : ChangeSpec := { name := "memOrders", fn := fun _ => fun
  | [d1, d2] => { results := [.lit (.bool true)], args := [d1, d2] }
  | _ => none }
def memOrdersRow : OpenClaim := { program := "ytfakoemkapankaa", sum := "b0c386c02ab71f026be15b8e96c014d0cc0f0b5d7fc0afcb31ba57a1cf91e0c7", func := "ponder/ponderlaw10.MemOrders", spec := "memOrders", unfollowed := true, recurses := true, apart := false }
def MemOrdersSaid : Prop := memOrdersRow.holds Try.pinned (OpenSpec.ofChange memOrdersSpec)

/-- ITS FALSE NEIGHBOUR: 'it returns false'. Refute it at one input. -/
def memOrdersWrong : ChangeSpec := { name := "memOrders", fn := fun _ => fun
  | [d1, d2] => { results := [.lit (.bool false)], args := [d1, d2] }
  | _ => none }
def MemOrdersWrongFalsely : Prop := memOrdersRow.holds Try.pinned (OpenSpec.ofChange memOrdersWrong)

/-- 'ponderlaw10.MemTags': WHATEVER THE INPUT: true; the input reads as it did. -/
def memTagsSpec : ChangeSpec := { name := "memTags", fn := fun _ => fun
  | [d] => { results := [.lit (.bool true)], args := [d] }
  | _ => none }
def memTagsRow : OpenClaim := { program := "ytfakoemkapankaa", sum := "b0c386c02ab71f026be15b8e96c014d0cc0f0b5d7fc0afcb31ba57a1cf91e0c7", func := "ponder/ponderlaw10.MemTags", spec := "memTags", unfollowed := true, recurses := true, apart := false }
def MemTagsSaid : Prop := memTagsRow.holds Try.pinned (OpenSpec.ofChange memTagsSpec)

/-- ITS FALSE NEIGHBOUR: 'it returns false'. Refute it at one input. -/
def memTagsWrong : ChangeSpec := { name := "memTags", fn := fun _ => fun
  | [d] => { results := [.lit (.bool false)], args := [d] }
  | _ => none }
def MemTagsWrongFalsely : Prop := memTagsRow.holds Try.pinned (OpenSpec.ofChange memTagsWrong)

/-- 'ponderlaw10.MemPlays': WHATEVER THE INPUT: true; the input reads as it did. -/
def memPlaysSpec : ChangeSpec := { name := "memPlays", fn := fun _ => fun
  | [d1, d2] => { results := [.lit (.bool true)], args := [d1, d2] }
  | _ => none }
def memPlaysRow : OpenClaim := { program := "ytfakoemkapankaa", sum := "b0c386c02ab71f026be15b8e96c014d0cc0f0b5d7fc0afcb31ba57a1cf91e0c7", func := "ponder/ponderlaw10.MemPlays", spec := "memPlays", unfollowed := true, recurses := true, apart := false }
def MemPlaysSaid : Prop := memPlaysRow.holds Try.pinned (OpenSpec.ofChange memPlaysSpec)

/-- ITS FALSE NEIGHBOUR: 'it returns false'. Refute it at one input. -/
def memPlaysWrong : ChangeSpec := { name := "memPlays", fn := fun _ => fun
  | [d1, d2] => { results := [.lit (.bool false)], args := [d1, d2] }
  | _ => none }
def MemPlaysWrongFalsely : Prop := memPlaysRow.holds Try.pinned (OpenSpec.ofChange memPlaysWrong)

/-- 'ponderlaw10.MemIndexes': WHATEVER THE INPUT: true; the input reads as it did. -/
def memIndexesSpec : ChangeSpec := { name := "memIndexes", fn := fun _ => fun
  | [d1, d2, d3, d4, d5] => { results := [.lit (.bool true)], args := [d1, d2, d3, d4, d5] }
  | _ => none }
def memIndexesRow : OpenClaim := { program := "ytfakoemkapankaa", sum := "b0c386c02ab71f026be15b8e96c014d0cc0f0b5d7fc0afcb31ba57a1cf91e0c7", func := "ponder/ponderlaw10.MemIndexes", spec := "memIndexes", unfollowed := true, recurses := true, apart := false }
def MemIndexesSaid : Prop := memIndexesRow.holds Try.pinned (OpenSpec.ofChange memIndexesSpec)

/-- ITS FALSE NEIGHBOUR: 'it returns false'. Refute it at one input. -/
def memIndexesWrong : ChangeSpec := { name := "memIndexes", fn := fun _ => fun
  | [d1, d2, d3, d4, d5] => { results := [.lit (.bool false)], args := [d1, d2, d3, d4, d5] }
  | _ => none }
def MemIndexesWrongFalsely : Prop := memIndexesRow.holds Try.pinned (OpenSpec.ofChange memIndexesWrong)

/-- 'ponderlaw20.DepsHits': WHATEVER THE INPUT: true; the input reads as it did. -/
def depsHitsSpec : ChangeSpec := { name := "depsHits", fn := fun _ => fun
  | [d1, d2, d3] => { results := [.lit (.bool true)], args := [d1, d2, d3] }
  | _ => none }
def depsHitsRow : OpenClaim := { program := "ytfakoemkapankaa", sum := "b0c386c02ab71f026be15b8e96c014d0cc0f0b5d7fc0afcb31ba57a1cf91e0c7", func := "ponder/ponderlaw20.DepsHits", spec := "depsHits", unfollowed := true, recurses := true, apart := false }
def DepsHitsSaid : Prop := depsHitsRow.holds Try.pinned (OpenSpec.ofChange depsHitsSpec)

/-- ITS FALSE NEIGHBOUR: 'it returns false'. Refute it at one input. -/
def depsHitsWrong : ChangeSpec := { name := "depsHits", fn := fun _ => fun
  | [d1, d2, d3] => { results := [.lit (.bool false)], args := [d1, d2, d3] }
  | _ => none }
def DepsHitsWrongFalsely : Prop := depsHitsRow.holds Try.pinned (OpenSpec.ofChange depsHitsWrong)

/-- 'ponderlaw20.DepsLeft': WHATEVER THE INPUT: true; the input reads as it did. -/
def depsLeftSpec : ChangeSpec := { name := "depsLeft", fn := fun _ => fun
  | [d1, d2, d3] => { results := [.lit (.bool true)], args := [d1, d2, d3] }
  | _ => none }
def depsLeftRow : OpenClaim := { program := "ytfakoemkapankaa", sum := "b0c386c02ab71f026be15b8e96c014d0cc0f0b5d7fc0afcb31ba57a1cf91e0c7", func := "ponder/ponderlaw20.DepsLeft", spec := "depsLeft", unfollowed := true, recurses := true, apart := false }
def DepsLeftSaid : Prop := depsLeftRow.holds Try.pinned (OpenSpec.ofChange depsLeftSpec)

/-- ITS FALSE NEIGHBOUR: 'it returns false'. Refute it at one input. -/
def depsLeftWrong : ChangeSpec := { name := "depsLeft", fn := fun _ => fun
  | [d1, d2, d3] => { results := [.lit (.bool false)], args := [d1, d2, d3] }
  | _ => none }
def DepsLeftWrongFalsely : Prop := depsLeftRow.holds Try.pinned (OpenSpec.ofChange depsLeftWrong)

/-- 'ponderlaw20.DepsOrders': WHATEVER THE INPUT: true; the input reads as it did. -/
def depsOrdersSpec : ChangeSpec := { name := "depsOrders", fn := fun _ => fun
  | [d1, d2] => { results := [.lit (.bool true)], args := [d1, d2] }
  | _ => none }
def depsOrdersRow : OpenClaim := { program := "ytfakoemkapankaa", sum := "b0c386c02ab71f026be15b8e96c014d0cc0f0b5d7fc0afcb31ba57a1cf91e0c7", func := "ponder/ponderlaw20.DepsOrders", spec := "depsOrders", unfollowed := true, recurses := true, apart := false }
def DepsOrdersSaid : Prop := depsOrdersRow.holds Try.pinned (OpenSpec.ofChange depsOrdersSpec)

/-- ITS FALSE NEIGHBOUR: 'it returns false'. Refute it at one input. -/
def depsOrdersWrong : ChangeSpec := { name := "depsOrders", fn := fun _ => fun
  | [d1, d2] => { results := [.lit (.bool false)], args := [d1, d2] }
  | _ => none }
def DepsOrdersWrongFalsely : Prop := depsOrdersRow.holds Try.pinned (OpenSpec.ofChange depsOrdersWrong)

/-- 'ponderlaw20.DepsCuts': WHATEVER THE INPUT: true; the input reads as it did. -/
def depsCutsSpec : ChangeSpec := { name := "depsCuts", fn := fun _ => fun
  | [d1, d2] => { results := [.lit (.bool true)], args := [d1, d2] }
  | _ => none }
def depsCutsRow : OpenClaim := { program := "ytfakoemkapankaa", sum := "b0c386c02ab71f026be15b8e96c014d0cc0f0b5d7fc0afcb31ba57a1cf91e0c7", func := "ponder/ponderlaw20.DepsCuts", spec := "depsCuts", unfollowed := true, recurses := true, apart := false }
def DepsCutsSaid : Prop := depsCutsRow.holds Try.pinned (OpenSpec.ofChange depsCutsSpec)

/-- ITS FALSE NEIGHBOUR: 'it returns false'. Refute it at one input. -/
def depsCutsWrong : ChangeSpec := { name := "depsCuts", fn := fun _ => fun
  | [d1, d2] => { results := [.lit (.bool false)], args := [d1, d2] }
  | _ => none }
def DepsCutsWrongFalsely : Prop := depsCutsRow.holds Try.pinned (OpenSpec.ofChange depsCutsWrong)

/-- 'ponderlaw20.DepsPlays': WHATEVER THE INPUT: true; the input reads as it did. -/
def depsPlaysSpec : ChangeSpec := { name := "depsPlays", fn := fun _ => fun
  | [d] => { results := [.lit (.bool true)], args := [d] }
  | _ => none }
def depsPlaysRow : OpenClaim := { program := "ytfakoemkapankaa", sum := "b0c386c02ab71f026be15b8e96c014d0cc0f0b5d7fc0afcb31ba57a1cf91e0c7", func := "ponder/ponderlaw20.DepsPlays", spec := "depsPlays", unfollowed := true, recurses := true, apart := false }
def DepsPlaysSaid : Prop := depsPlaysRow.holds Try.pinned (OpenSpec.ofChange depsPlaysSpec)

/-- ITS FALSE NEIGHBOUR: 'it returns false'. Refute it at one input. -/
def depsPlaysWrong : ChangeSpec := { name := "depsPlays", fn := fun _ => fun
  | [d] => { results := [.lit (.bool false)], args := [d] }
  | _ => none }
def DepsPlaysWrongFalsely : Prop := depsPlaysRow.holds Try.pinned (OpenSpec.ofChange depsPlaysWrong)

/-- 'ponderlaw26.LinkNews': WHATEVER THE INPUT: true; the input reads as it did. -/
def linkNewsSpec : ChangeSpec := { name := "linkNews", fn := fun _ => fun
  | [d1, d2] => { results := [.lit (.bool true)], args := [d1, d2] }
  | _ => none }
def linkNewsRow : OpenClaim := { program := "ytfakoemkapankaa", sum := "b0c386c02ab71f026be15b8e96c014d0cc0f0b5d7fc0afcb31ba57a1cf91e0c7", func := "ponder/ponderlaw26.LinkNews", spec := "linkNews", unfollowed := true, recurses := true, apart := false }
def LinkNewsSaid : Prop := linkNewsRow.holds Try.pinned (OpenSpec.ofChange linkNewsSpec)

/-- ITS FALSE NEIGHBOUR: 'it returns false'. Refute it at one input. -/
def linkNewsWrong : ChangeSpec := { name := "linkNews", fn := fun _ => fun
  | [d1, d2] => { results := [.lit (.bool false)], args := [d1, d2] }
  | _ => none }
def LinkNewsWrongFalsely : Prop := linkNewsRow.holds Try.pinned (OpenSpec.ofChange linkNewsWrong)

/-- 'ponderlaw26.LinkOrders': WHATEVER THE INPUT: true; the input reads as it did. -/
def linkOrdersSpec : ChangeSpec := { name := "linkOrders", fn := fun _ => fun
  | [d1, d2] => { results := [.lit (.bool true)], args := [d1, d2] }
  | _ => none }
def linkOrdersRow : OpenClaim := { program := "ytfakoemkapankaa", sum := "b0c386c02ab71f026be15b8e96c014d0cc0f0b5d7fc0afcb31ba57a1cf91e0c7", func := "ponder/ponderlaw26.LinkOrders", spec := "linkOrders", unfollowed := true, recurses := true, apart := false }
def LinkOrdersSaid : Prop := linkOrdersRow.holds Try.pinned (OpenSpec.ofChange linkOrdersSpec)

/-- ITS FALSE NEIGHBOUR: 'it returns false'. Refute it at one input. -/
def linkOrdersWrong : ChangeSpec := { name := "linkOrders", fn := fun _ => fun
  | [d1, d2] => { results := [.lit (.bool false)], args := [d1, d2] }
  | _ => none }
def LinkOrdersWrongFalsely : Prop := linkOrdersRow.holds Try.pinned (OpenSpec.ofChange linkOrdersWrong)

/-- 'ponderlaw26.LinkRooms': WHATEVER THE INPUT: true; the input reads as it did. -/
def linkRoomsSpec : ChangeSpec := { name := "linkRooms", fn := fun _ => fun
  | [d1, d2] => { results := [.lit (.bool true)], args := [d1, d2] }
  | _ => none }
def linkRoomsRow : OpenClaim := { program := "ytfakoemkapankaa", sum := "b0c386c02ab71f026be15b8e96c014d0cc0f0b5d7fc0afcb31ba57a1cf91e0c7", func := "ponder/ponderlaw26.LinkRooms", spec := "linkRooms", unfollowed := true, recurses := true, apart := false }
def LinkRoomsSaid : Prop := linkRoomsRow.holds Try.pinned (OpenSpec.ofChange linkRoomsSpec)

/-- ITS FALSE NEIGHBOUR: 'it returns false'. Refute it at one input. -/
def linkRoomsWrong : ChangeSpec := { name := "linkRooms", fn := fun _ => fun
  | [d1, d2] => { results := [.lit (.bool false)], args := [d1, d2] }
  | _ => none }
def LinkRoomsWrongFalsely : Prop := linkRoomsRow.holds Try.pinned (OpenSpec.ofChange linkRoomsWrong)

/-- 'ponderlaw26.LinkPlays': WHATEVER THE INPUT: true; the input reads as it did. -/
def linkPlaysSpec : ChangeSpec := { name := "linkPlays", fn := fun _ => fun
  | [d] => { results := [.lit (.bool true)], args := [d] }
  | _ => none }
def linkPlaysRow : OpenClaim := { program := "ytfakoemkapankaa", sum := "b0c386c02ab71f026be15b8e96c014d0cc0f0b5d7fc0afcb31ba57a1cf91e0c7", func := "ponder/ponderlaw26.LinkPlays", spec := "linkPlays", unfollowed := true, recurses := true, apart := false }
def LinkPlaysSaid : Prop := linkPlaysRow.holds Try.pinned (OpenSpec.ofChange linkPlaysSpec)

/-- ITS FALSE NEIGHBOUR: 'it returns false'. Refute it at one input. -/
def linkPlaysWrong : ChangeSpec := { name := "linkPlays", fn := fun _ => fun
  | [d] => { results := [.lit (.bool false)], args := [d] }
  | _ => none }
def LinkPlaysWrongFalsely : Prop := linkPlaysRow.holds Try.pinned (OpenSpec.ofChange linkPlaysWrong)

/-- 'ponderlaw26.LinkClones': WHATEVER THE INPUT: true; the input reads as it did. -/
def linkClonesSpec : ChangeSpec := { name := "linkClones", fn := fun _ => fun
  | [d1, d2, d3] => { results := [.lit (.bool true)], args := [d1, d2, d3] }
  | _ => none }
def linkClonesRow : OpenClaim := { program := "ytfakoemkapankaa", sum := "b0c386c02ab71f026be15b8e96c014d0cc0f0b5d7fc0afcb31ba57a1cf91e0c7", func := "ponder/ponderlaw26.LinkClones", spec := "linkClones", unfollowed := true, recurses := true, apart := false }
def LinkClonesSaid : Prop := linkClonesRow.holds Try.pinned (OpenSpec.ofChange linkClonesSpec)

/-- ITS FALSE NEIGHBOUR: 'it returns false'. Refute it at one input. -/
def linkClonesWrong : ChangeSpec := { name := "linkClones", fn := fun _ => fun
  | [d1, d2, d3] => { results := [.lit (.bool false)], args := [d1, d2, d3] }
  | _ => none }
def LinkClonesWrongFalsely : Prop := linkClonesRow.holds Try.pinned (OpenSpec.ofChange linkClonesWrong)

/-- 'ponderlaw26.LinkReached': WHATEVER THE INPUT: true; the input reads as it did. -/
def linkReachedSpec : ChangeSpec := { name := "linkReached", fn := fun _ => fun
  | [d1, d2, d3] => { results := [.lit (.bool true)], args := [d1, d2, d3] }
  | _ => none }
def linkReachedRow : OpenClaim := { program := "ytfakoemkapankaa", sum := "b0c386c02ab71f026be15b8e96c014d0cc0f0b5d7fc0afcb31ba57a1cf91e0c7", func := "ponder/ponderlaw26.LinkReached", spec := "linkReached", unfollowed := true, recurses := true, apart := false }
def LinkReachedSaid : Prop := linkReachedRow.holds Try.pinned (OpenSpec.ofChange linkReachedSpec)

/-- ITS FALSE NEIGHBOUR: 'it returns false'. Refute it at one input. -/
def linkReachedWrong : ChangeSpec := { name := "linkReached", fn := fun _ => fun
  | [d1, d2, d3] => { results := [.lit (.bool false)], args := [d1, d2, d3] }
  | _ => none }
def LinkReachedWrongFalsely : Prop := linkReachedRow.holds Try.pinned (OpenSpec.ofChange linkReachedWrong)

/- THE SECOND FORM. 'bulk': how many values and letters a reading holds, each counted each time it is reached (what is shared counts as often as it is met; a slice's spare places count too). A statement '..UptoSaid' is the law's where the arguments, and the package variables that the reading takes, are together of bulk at most 1048576: NARROWER than '..Said'. Prove '..Said' where nothing that the law and all that it calls make is longer than what came in: it says more and counts as full. Else prove '..UptoSaid'. A law counts once. -/
mutual
def uptoBulk {H : Type} : DataW H → Nat
  | .lit (.string bytes) => bytes.length + 1
  | .lit _ => 1
  | .nil => 1
  | .ptr d => uptoBulk d + 1
  | .slice elems spare => uptoBulkAll elems + uptoBulkAll spare + 1
  | .agg parts => uptoBulkAll parts + 1
  | .iface _ d => uptoBulk d + 1
  | .map entries => uptoBulkEntries entries + 1
  | .held _ => 1
def uptoBulkAll {H : Type} : List (DataW H) → Nat
  | [] => 0
  | d :: r => uptoBulk d + uptoBulkAll r
def uptoBulkEntries {H : Type} : List (Lit × DataW H) → Nat
  | [] => 0
  | x :: r => uptoBulkEntry x + uptoBulkEntries r
def uptoBulkEntry {H : Type} : Lit × DataW H → Nat
  | (.string bytes, d) => bytes.length + uptoBulk d + 1
  | (_, d) => uptoBulk d + 1
 end
def uptoSmall : (H : Type) → List (DataW H) → Bool := fun _ ds => decide (uptoBulkAll ds ≤ 1048576)
def OpenSpec.upto (s : _root_.Go.ChangeSpec) : _root_.Go.OpenSpec := { _root_.Go.OpenSpec.ofChange s with cond := some uptoSmall }

/-- 'ponderlaw11.ReachOne', WHERE WHAT IT READS IS OF BULK AT MOST 1048576: true; the input reads as it did. -/
def reachOneUptoRow : OpenClaim := { program := "ytfakoemkapankaa", sum := "b0c386c02ab71f026be15b8e96c014d0cc0f0b5d7fc0afcb31ba57a1cf91e0c7", func := "ponder/ponderlaw11.ReachOne", spec := "reachOne", unfollowed := true, recurses := true, apart := false, narrowed := true }
def ReachOneUptoSaid : Prop := reachOneUptoRow.holds Try.pinned (OpenSpec.upto reachOneSpec)

/-- 'ponderlaw11.ReachMore', WHERE WHAT IT READS IS OF BULK AT MOST 1048576: true; the input reads as it did. -/
def reachMoreUptoRow : OpenClaim := { program := "ytfakoemkapankaa", sum := "b0c386c02ab71f026be15b8e96c014d0cc0f0b5d7fc0afcb31ba57a1cf91e0c7", func := "ponder/ponderlaw11.ReachMore", spec := "reachMore", unfollowed := true, recurses := true, apart := false, narrowed := true }
def ReachMoreUptoSaid : Prop := reachMoreUptoRow.holds Try.pinned (OpenSpec.upto reachMoreSpec)

/-- 'ponderlaw11.ReachGoals', WHERE WHAT IT READS IS OF BULK AT MOST 1048576: true; the input reads as it did. -/
def reachGoalsUptoRow : OpenClaim := { program := "ytfakoemkapankaa", sum := "b0c386c02ab71f026be15b8e96c014d0cc0f0b5d7fc0afcb31ba57a1cf91e0c7", func := "ponder/ponderlaw11.ReachGoals", spec := "reachGoals", unfollowed := true, recurses := true, apart := false, narrowed := true }
def ReachGoalsUptoSaid : Prop := reachGoalsUptoRow.holds Try.pinned (OpenSpec.upto reachGoalsSpec)

/-- 'ponderlaw11.ReachSteps', WHERE WHAT IT READS IS OF BULK AT MOST 1048576: true; the input reads as it did. -/
def reachStepsUptoRow : OpenClaim := { program := "ytfakoemkapankaa", sum := "b0c386c02ab71f026be15b8e96c014d0cc0f0b5d7fc0afcb31ba57a1cf91e0c7", func := "ponder/ponderlaw11.ReachSteps", spec := "reachSteps", unfollowed := true, recurses := true, apart := false, narrowed := true }
def ReachStepsUptoSaid : Prop := reachStepsUptoRow.holds Try.pinned (OpenSpec.upto reachStepsSpec)

/-- 'ponderlaw11.ReachLevels', WHERE WHAT IT READS IS OF BULK AT MOST 1048576: true; the input reads as it did. -/
def reachLevelsUptoRow : OpenClaim := { program := "ytfakoemkapankaa", sum := "b0c386c02ab71f026be15b8e96c014d0cc0f0b5d7fc0afcb31ba57a1cf91e0c7", func := "ponder/ponderlaw11.ReachLevels", spec := "reachLevels", unfollowed := true, recurses := true, apart := false, narrowed := true }
def ReachLevelsUptoSaid : Prop := reachLevelsUptoRow.holds Try.pinned (OpenSpec.upto reachLevelsSpec)

/-- 'ponderlaw11.ReachLive', WHERE WHAT IT READS IS OF BULK AT MOST 1048576: true; the input reads as it did. -/
def reachLiveUptoRow : OpenClaim := { program := "ytfakoemkapankaa", sum := "b0c386c02ab71f026be15b8e96c014d0cc0f0b5d7fc0afcb31ba57a1cf91e0c7", func := "ponder/ponderlaw11.ReachLive", spec := "reachLive", unfollowed := true, recurses := true, apart := false, narrowed := true }
def ReachLiveUptoSaid : Prop := reachLiveUptoRow.holds Try.pinned (OpenSpec.upto reachLiveSpec)

/-- 'ponderlaw10.MemWords', WHERE WHAT IT READS IS OF BULK AT MOST 1048576: true; the input reads as it did. -/
def memWordsUptoRow : OpenClaim := { program := "ytfakoemkapankaa", sum := "b0c386c02ab71f026be15b8e96c014d0cc0f0b5d7fc0afcb31ba57a1cf91e0c7", func := "ponder/ponderlaw10.MemWords", spec := "memWords", unfollowed := true, recurses := true, apart := false, narrowed := true }
def MemWordsUptoSaid : Prop := memWordsUptoRow.holds Try.pinned (OpenSpec.upto memWordsSpec)

/-- 'ponderlaw10.MemRooms', WHERE WHAT IT READS IS OF BULK AT MOST 1048576: true; the input reads as it did. -/
def memRoomsUptoRow : OpenClaim := { program := "ytfakoemkapankaa", sum := "b0c386c02ab71f026be15b8e96c014d0cc0f0b5d7fc0afcb31ba57a1cf91e0c7", func := "ponder/ponderlaw10.MemRooms", spec := "memRooms", unfollowed := true, recurses := true, apart := false, narrowed := true }
def MemRoomsUptoSaid : Prop := memRoomsUptoRow.holds Try.pinned (OpenSpec.upto memRoomsSpec)

/-- 'ponderlaw10.MemOrders', WHERE WHAT IT READS IS OF BULK AT MOST 1048576: true; the input reads as it did. -/
def memOrdersUptoRow : OpenClaim := { program := "ytfakoemkapankaa", sum := "b0c386c02ab71f026be15b8e96c014d0cc0f0b5d7fc0afcb31ba57a1cf91e0c7", func := "ponder/ponderlaw10.MemOrders", spec := "memOrders", unfollowed := true, recurses := true, apart := false, narrowed := true }
def MemOrdersUptoSaid : Prop := memOrdersUptoRow.holds Try.pinned (OpenSpec.upto memOrdersSpec)

/-- 'ponderlaw10.MemTags', WHERE WHAT IT READS IS OF BULK AT MOST 1048576: true; the input reads as it did. -/
def memTagsUptoRow : OpenClaim := { program := "ytfakoemkapankaa", sum := "b0c386c02ab71f026be15b8e96c014d0cc0f0b5d7fc0afcb31ba57a1cf91e0c7", func := "ponder/ponderlaw10.MemTags", spec := "memTags", unfollowed := true, recurses := true, apart := false, narrowed := true }
def MemTagsUptoSaid : Prop := memTagsUptoRow.holds Try.pinned (OpenSpec.upto memTagsSpec)

/-- 'ponderlaw10.MemPlays', WHERE WHAT IT READS IS OF BULK AT MOST 1048576: true; the input reads as it did. -/
def memPlaysUptoRow : OpenClaim := { program := "ytfakoemkapankaa", sum := "b0c386c02ab71f026be15b8e96c014d0cc0f0b5d7fc0afcb31ba57a1cf91e0c7", func := "ponder/ponderlaw10.MemPlays", spec := "memPlays", unfollowed := true, recurses := true, apart := false, narrowed := true }
def MemPlaysUptoSaid : Prop := memPlaysUptoRow.holds Try.pinned (OpenSpec.upto memPlaysSpec)

/-- 'ponderlaw10.MemIndexes', WHERE WHAT IT READS IS OF BULK AT MOST 1048576: true; the input reads as it did. -/
def memIndexesUptoRow : OpenClaim := { program := "ytfakoemkapankaa", sum := "b0c386c02ab71f026be15b8e96c014d0cc0f0b5d7fc0afcb31ba57a1cf91e0c7", func := "ponder/ponderlaw10.MemIndexes", spec := "memIndexes", unfollowed := true, recurses := true, apart := false, narrowed := true }
def MemIndexesUptoSaid : Prop := memIndexesUptoRow.holds Try.pinned (OpenSpec.upto memIndexesSpec)

/-- 'ponderlaw20.DepsHits', WHERE WHAT IT READS IS OF BULK AT MOST 1048576: true; the input reads as it did. -/
def depsHitsUptoRow : OpenClaim := { program := "ytfakoemkapankaa", sum := "b0c386c02ab71f026be15b8e96c014d0cc0f0b5d7fc0afcb31ba57a1cf91e0c7", func := "ponder/ponderlaw20.DepsHits", spec := "depsHits", unfollowed := true, recurses := true, apart := false, narrowed := true }
def DepsHitsUptoSaid : Prop := depsHitsUptoRow.holds Try.pinned (OpenSpec.upto depsHitsSpec)

/-- 'ponderlaw20.DepsLeft', WHERE WHAT IT READS IS OF BULK AT MOST 1048576: true; the input reads as it did. -/
def depsLeftUptoRow : OpenClaim := { program := "ytfakoemkapankaa", sum := "b0c386c02ab71f026be15b8e96c014d0cc0f0b5d7fc0afcb31ba57a1cf91e0c7", func := "ponder/ponderlaw20.DepsLeft", spec := "depsLeft", unfollowed := true, recurses := true, apart := false, narrowed := true }
def DepsLeftUptoSaid : Prop := depsLeftUptoRow.holds Try.pinned (OpenSpec.upto depsLeftSpec)

/-- 'ponderlaw20.DepsOrders', WHERE WHAT IT READS IS OF BULK AT MOST 1048576: true; the input reads as it did. -/
def depsOrdersUptoRow : OpenClaim := { program := "ytfakoemkapankaa", sum := "b0c386c02ab71f026be15b8e96c014d0cc0f0b5d7fc0afcb31ba57a1cf91e0c7", func := "ponder/ponderlaw20.DepsOrders", spec := "depsOrders", unfollowed := true, recurses := true, apart := false, narrowed := true }
def DepsOrdersUptoSaid : Prop := depsOrdersUptoRow.holds Try.pinned (OpenSpec.upto depsOrdersSpec)

/-- 'ponderlaw20.DepsCuts', WHERE WHAT IT READS IS OF BULK AT MOST 1048576: true; the input reads as it did. -/
def depsCutsUptoRow : OpenClaim := { program := "ytfakoemkapankaa", sum := "b0c386c02ab71f026be15b8e96c014d0cc0f0b5d7fc0afcb31ba57a1cf91e0c7", func := "ponder/ponderlaw20.DepsCuts", spec := "depsCuts", unfollowed := true, recurses := true, apart := false, narrowed := true }
def DepsCutsUptoSaid : Prop := depsCutsUptoRow.holds Try.pinned (OpenSpec.upto depsCutsSpec)

/-- 'ponderlaw20.DepsPlays', WHERE WHAT IT READS IS OF BULK AT MOST 1048576: true; the input reads as it did. -/
def depsPlaysUptoRow : OpenClaim := { program := "ytfakoemkapankaa", sum := "b0c386c02ab71f026be15b8e96c014d0cc0f0b5d7fc0afcb31ba57a1cf91e0c7", func := "ponder/ponderlaw20.DepsPlays", spec := "depsPlays", unfollowed := true, recurses := true, apart := false, narrowed := true }
def DepsPlaysUptoSaid : Prop := depsPlaysUptoRow.holds Try.pinned (OpenSpec.upto depsPlaysSpec)

/-- 'ponderlaw26.LinkNews', WHERE WHAT IT READS IS OF BULK AT MOST 1048576: true; the input reads as it did. -/
def linkNewsUptoRow : OpenClaim := { program := "ytfakoemkapankaa", sum := "b0c386c02ab71f026be15b8e96c014d0cc0f0b5d7fc0afcb31ba57a1cf91e0c7", func := "ponder/ponderlaw26.LinkNews", spec := "linkNews", unfollowed := true, recurses := true, apart := false, narrowed := true }
def LinkNewsUptoSaid : Prop := linkNewsUptoRow.holds Try.pinned (OpenSpec.upto linkNewsSpec)

/-- 'ponderlaw26.LinkOrders', WHERE WHAT IT READS IS OF BULK AT MOST 1048576: true; the input reads as it did. -/
def linkOrdersUptoRow : OpenClaim := { program := "ytfakoemkapankaa", sum := "b0c386c02ab71f026be15b8e96c014d0cc0f0b5d7fc0afcb31ba57a1cf91e0c7", func := "ponder/ponderlaw26.LinkOrders", spec := "linkOrders", unfollowed := true, recurses := true, apart := false, narrowed := true }
def LinkOrdersUptoSaid : Prop := linkOrdersUptoRow.holds Try.pinned (OpenSpec.upto linkOrdersSpec)

/-- 'ponderlaw26.LinkRooms', WHERE WHAT IT READS IS OF BULK AT MOST 1048576: true; the input reads as it did. -/
def linkRoomsUptoRow : OpenClaim := { program := "ytfakoemkapankaa", sum := "b0c386c02ab71f026be15b8e96c014d0cc0f0b5d7fc0afcb31ba57a1cf91e0c7", func := "ponder/ponderlaw26.LinkRooms", spec := "linkRooms", unfollowed := true, recurses := true, apart := false, narrowed := true }
def LinkRoomsUptoSaid : Prop := linkRoomsUptoRow.holds Try.pinned (OpenSpec.upto linkRoomsSpec)

/-- 'ponderlaw26.LinkPlays', WHERE WHAT IT READS IS OF BULK AT MOST 1048576: true; the input reads as it did. -/
def linkPlaysUptoRow : OpenClaim := { program := "ytfakoemkapankaa", sum := "b0c386c02ab71f026be15b8e96c014d0cc0f0b5d7fc0afcb31ba57a1cf91e0c7", func := "ponder/ponderlaw26.LinkPlays", spec := "linkPlays", unfollowed := true, recurses := true, apart := false, narrowed := true }
def LinkPlaysUptoSaid : Prop := linkPlaysUptoRow.holds Try.pinned (OpenSpec.upto linkPlaysSpec)

/-- 'ponderlaw26.LinkClones', WHERE WHAT IT READS IS OF BULK AT MOST 1048576: true; the input reads as it did. -/
def linkClonesUptoRow : OpenClaim := { program := "ytfakoemkapankaa", sum := "b0c386c02ab71f026be15b8e96c014d0cc0f0b5d7fc0afcb31ba57a1cf91e0c7", func := "ponder/ponderlaw26.LinkClones", spec := "linkClones", unfollowed := true, recurses := true, apart := false, narrowed := true }
def LinkClonesUptoSaid : Prop := linkClonesUptoRow.holds Try.pinned (OpenSpec.upto linkClonesSpec)

/-- 'ponderlaw26.LinkReached', WHERE WHAT IT READS IS OF BULK AT MOST 1048576: true; the input reads as it did. -/
def linkReachedUptoRow : OpenClaim := { program := "ytfakoemkapankaa", sum := "b0c386c02ab71f026be15b8e96c014d0cc0f0b5d7fc0afcb31ba57a1cf91e0c7", func := "ponder/ponderlaw26.LinkReached", spec := "linkReached", unfollowed := true, recurses := true, apart := false, narrowed := true }
def LinkReachedUptoSaid : Prop := linkReachedUptoRow.holds Try.pinned (OpenSpec.upto linkReachedSpec)

end Rows
end Go.Proofs.Ytfakoemkapankaa
