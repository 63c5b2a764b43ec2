/-
  No cell of these rows narrows 'for every input' (looked for: loops, veiled, ifaces, maps, wideKeys, modest, calm, conditions, laid).
  DERIVED. THE GIVEN ROWS OF THIS SEAT. 6 by the template 'for every input the law returns true; each argument reads behind the call as it read before'; 0 by the template 'total and deterministic' (their statements: YtonjhakjnopbjaaTotals.lean).
  GIVEN WITH THE SEED: the statements are not yours to turn. If you find one false, say at which input.
  Laid BY PROGRAM, IN A SANDBOX (cutbox-rows.mjs): the forced cells as the released guide's own fill.sh prints them over the translation 50edfcf4d64745fb… (all of the seat's roots in one cut). By AI agents, Wed Nov 11 2026. No macro, syntax, notation, axiom, sorry.
-/
import Derived.Test.YtonjhakjnopbjaaChecked
import GoSem.Claim
import GoSem.ClaimJoined
import GoSem.ClaimMapViews
import Derived.JoinedTies
import Derived.KernelRfl
namespace Go.Proofs.Ytonjhakjnopbjaa
/- THE CELL 'sum', in the pinned program and in every row, IS THE sha256 OF THE DUMP (.gsa) THAT YtonjhakjnopbjaaProg.lean LOADS. Nothing in Lean hashes anything: it is a label: what it is worth is what the hold of that sum in a sandbox is worth. -/
noncomputable def Try.pinned : Pinned := { name := "ytonjhakjnopbjaa", sum := "50edfcf4d64745fb120d28b6cd42b8ccfc3b75e697f7e64999fc85fd229ecd3b", checked := Try.checked }
namespace Rows
def none {H : Type} : Left H := { results := [], args := [] }

/-- 'ponderlaw26.LinkNews': WHATEVER THE INPUT: true; the input reads as it did. -/
def linkNewsSpec : ChangeSpec := { name := "linkNews", fn := fun _ => fun
  | [d1, d2] => { results := [.lit (.bool true)], args := [d1, d2] }
  | _ => none }
def linkNewsRow : OpenClaim := { program := "ytonjhakjnopbjaa", sum := "50edfcf4d64745fb120d28b6cd42b8ccfc3b75e697f7e64999fc85fd229ecd3b", func := "ponder/ponderlaw26.LinkNews", spec := "linkNews", unfollowed := true, recurses := true, apart := false }
def LinkNewsSaid : Prop := linkNewsRow.holds Try.pinned (OpenSpec.ofChange linkNewsSpec)

/-- ITS FALSE NEIGHBOUR: 'it returns false'. Refute it at one input. -/
def linkNewsWrong : ChangeSpec := { name := "linkNews", fn := fun _ => fun
  | [d1, d2] => { results := [.lit (.bool false)], args := [d1, d2] }
  | _ => none }
def LinkNewsWrongFalsely : Prop := linkNewsRow.holds Try.pinned (OpenSpec.ofChange linkNewsWrong)

/-- 'ponderlaw26.LinkOrders': WHATEVER THE INPUT: true; the input reads as it did. -/
def linkOrdersSpec : ChangeSpec := { name := "linkOrders", fn := fun _ => fun
  | [d1, d2] => { results := [.lit (.bool true)], args := [d1, d2] }
  | _ => none }
def linkOrdersRow : OpenClaim := { program := "ytonjhakjnopbjaa", sum := "50edfcf4d64745fb120d28b6cd42b8ccfc3b75e697f7e64999fc85fd229ecd3b", func := "ponder/ponderlaw26.LinkOrders", spec := "linkOrders", unfollowed := true, recurses := true, apart := false }
def LinkOrdersSaid : Prop := linkOrdersRow.holds Try.pinned (OpenSpec.ofChange linkOrdersSpec)

/-- ITS FALSE NEIGHBOUR: 'it returns false'. Refute it at one input. -/
def linkOrdersWrong : ChangeSpec := { name := "linkOrders", fn := fun _ => fun
  | [d1, d2] => { results := [.lit (.bool false)], args := [d1, d2] }
  | _ => none }
def LinkOrdersWrongFalsely : Prop := linkOrdersRow.holds Try.pinned (OpenSpec.ofChange linkOrdersWrong)

/-- 'ponderlaw26.LinkRooms': WHATEVER THE INPUT: true; the input reads as it did. -/
def linkRoomsSpec : ChangeSpec := { name := "linkRooms", fn := fun _ => fun
  | [d1, d2] => { results := [.lit (.bool true)], args := [d1, d2] }
  | _ => none }
def linkRoomsRow : OpenClaim := { program := "ytonjhakjnopbjaa", sum := "50edfcf4d64745fb120d28b6cd42b8ccfc3b75e697f7e64999fc85fd229ecd3b", func := "ponder/ponderlaw26.LinkRooms", spec := "linkRooms", unfollowed := true, recurses := true, apart := false }
def LinkRoomsSaid : Prop := linkRoomsRow.holds Try.pinned (OpenSpec.ofChange linkRoomsSpec)

/-- ITS FALSE NEIGHBOUR: 'it returns false'. Refute it at one input. -/
def linkRoomsWrong : ChangeSpec := { name := "linkRooms", fn := fun _ => fun
  | [d1, d2] => { results := [.lit (.bool false)], args := [d1, d2] }
  | _ => none }
def LinkRoomsWrongFalsely : Prop := linkRoomsRow.holds Try.pinned (OpenSpec.ofChange linkRoomsWrong)

/-- 'ponderlaw26.LinkPlays': WHATEVER THE INPUT: true; the input reads as it did. -/
def linkPlaysSpec : ChangeSpec := { name := "linkPlays", fn := fun _ => fun
  | [d] => { results := [.lit (.bool true)], args := [d] }
  | _ => none }
def linkPlaysRow : OpenClaim := { program := "ytonjhakjnopbjaa", sum := "50edfcf4d64745fb120d28b6cd42b8ccfc3b75e697f7e64999fc85fd229ecd3b", func := "ponder/ponderlaw26.LinkPlays", spec := "linkPlays", unfollowed := true, recurses := true, apart := false }
def LinkPlaysSaid : Prop := linkPlaysRow.holds Try.pinned (OpenSpec.ofChange linkPlaysSpec)

/-- ITS FALSE NEIGHBOUR: 'it returns false'. Refute it at one input. -/
def linkPlaysWrong : ChangeSpec := { name := "linkPlays", fn := fun _ => fun
  | [d] => { results := [.lit (.bool false)], args := [d] }
  | _ => none }
def LinkPlaysWrongFalsely : Prop := linkPlaysRow.holds Try.pinned (OpenSpec.ofChange linkPlaysWrong)

/-- 'ponderlaw26.LinkClones': WHATEVER THE INPUT: true; the input reads as it did. -/
def linkClonesSpec : ChangeSpec := { name := "linkClones", fn := fun _ => fun
  | [d1, d2, d3] => { results := [.lit (.bool true)], args := [d1, d2, d3] }
  | _ => none }
def linkClonesRow : OpenClaim := { program := "ytonjhakjnopbjaa", sum := "50edfcf4d64745fb120d28b6cd42b8ccfc3b75e697f7e64999fc85fd229ecd3b", func := "ponder/ponderlaw26.LinkClones", spec := "linkClones", unfollowed := true, recurses := true, apart := false }
def LinkClonesSaid : Prop := linkClonesRow.holds Try.pinned (OpenSpec.ofChange linkClonesSpec)

/-- ITS FALSE NEIGHBOUR: 'it returns false'. Refute it at one input. -/
def linkClonesWrong : ChangeSpec := { name := "linkClones", fn := fun _ => fun
  | [d1, d2, d3] => { results := [.lit (.bool false)], args := [d1, d2, d3] }
  | _ => none }
def LinkClonesWrongFalsely : Prop := linkClonesRow.holds Try.pinned (OpenSpec.ofChange linkClonesWrong)

/-- 'ponderlaw26.LinkReached': WHATEVER THE INPUT: true; the input reads as it did. -/
def linkReachedSpec : ChangeSpec := { name := "linkReached", fn := fun _ => fun
  | [d1, d2, d3] => { results := [.lit (.bool true)], args := [d1, d2, d3] }
  | _ => none }
def linkReachedRow : OpenClaim := { program := "ytonjhakjnopbjaa", sum := "50edfcf4d64745fb120d28b6cd42b8ccfc3b75e697f7e64999fc85fd229ecd3b", func := "ponder/ponderlaw26.LinkReached", spec := "linkReached", unfollowed := true, recurses := true, apart := false }
def LinkReachedSaid : Prop := linkReachedRow.holds Try.pinned (OpenSpec.ofChange linkReachedSpec)

/-- ITS FALSE NEIGHBOUR: 'it returns false'. Refute it at one input. -/
def linkReachedWrong : ChangeSpec := { name := "linkReached", fn := fun _ => fun
  | [d1, d2, d3] => { results := [.lit (.bool false)], args := [d1, d2, d3] }
  | _ => none }
def LinkReachedWrongFalsely : Prop := linkReachedRow.holds Try.pinned (OpenSpec.ofChange linkReachedWrong)

/- THE SECOND FORM. 'bulk': how many values and letters a reading holds, each counted each time it is reached (what is shared counts as often as it is met; a slice's spare places count too). A statement '..UptoSaid' is the law's where the arguments, and the package variables that the reading takes, are together of bulk at most 1048576: NARROWER than '..Said'. Prove '..Said' where nothing that the law and all that it calls make is longer than what came in: it says more and counts as full. Else prove '..UptoSaid'. A law counts once. -/
mutual
def uptoBulk {H : Type} : DataW H → Nat
  | .lit (.string bytes) => bytes.length + 1
  | .lit _ => 1
  | .nil => 1
  | .ptr d => uptoBulk d + 1
  | .slice elems spare => uptoBulkAll elems + uptoBulkAll spare + 1
  | .agg parts => uptoBulkAll parts + 1
  | .iface _ d => uptoBulk d + 1
  | .map entries => uptoBulkEntries entries + 1
  | .held _ => 1
def uptoBulkAll {H : Type} : List (DataW H) → Nat
  | [] => 0
  | d :: r => uptoBulk d + uptoBulkAll r
def uptoBulkEntries {H : Type} : List (Lit × DataW H) → Nat
  | [] => 0
  | x :: r => uptoBulkEntry x + uptoBulkEntries r
def uptoBulkEntry {H : Type} : Lit × DataW H → Nat
  | (.string bytes, d) => bytes.length + uptoBulk d + 1
  | (_, d) => uptoBulk d + 1
 end
def uptoSmall : (H : Type) → List (DataW H) → Bool := fun _ ds => decide (uptoBulkAll ds ≤ 1048576)
def OpenSpec.upto (s : _root_.Go.ChangeSpec) : _root_.Go.OpenSpec := { _root_.Go.OpenSpec.ofChange s with cond := some uptoSmall }

/-- 'ponderlaw26.LinkNews', WHERE WHAT IT READS IS OF BULK AT MOST 1048576: true; the input reads as it did. -/
def linkNewsUptoRow : OpenClaim := { program := "ytonjhakjnopbjaa", sum := "50edfcf4d64745fb120d28b6cd42b8ccfc3b75e697f7e64999fc85fd229ecd3b", func := "ponder/ponderlaw26.LinkNews", spec := "linkNews", unfollowed := true, recurses := true, apart := false, narrowed := true }
def LinkNewsUptoSaid : Prop := linkNewsUptoRow.holds Try.pinned (OpenSpec.upto linkNewsSpec)

/-- 'ponderlaw26.LinkOrders', WHERE WHAT IT READS IS OF BULK AT MOST 1048576: true; the input reads as it did. -/
def linkOrdersUptoRow : OpenClaim := { program := "ytonjhakjnopbjaa", sum := "50edfcf4d64745fb120d28b6cd42b8ccfc3b75e697f7e64999fc85fd229ecd3b", func := "ponder/ponderlaw26.LinkOrders", spec := "linkOrders", unfollowed := true, recurses := true, apart := false, narrowed := true }
def LinkOrdersUptoSaid : Prop := linkOrdersUptoRow.holds Try.pinned (OpenSpec.upto linkOrdersSpec)

/-- 'ponderlaw26.LinkRooms', WHERE WHAT IT READS IS OF BULK AT MOST 1048576: true; the input reads as it did. -/
def linkRoomsUptoRow : OpenClaim := { program := "ytonjhakjnopbjaa", sum := "50edfcf4d64745fb120d28b6cd42b8ccfc3b75e697f7e64999fc85fd229ecd3b", func := "ponder/ponderlaw26.LinkRooms", spec := "linkRooms", unfollowed := true, recurses := true, apart := false, narrowed := true }
def LinkRoomsUptoSaid : Prop := linkRoomsUptoRow.holds Try.pinned (OpenSpec.upto linkRoomsSpec)

/-- 'ponderlaw26.LinkPlays', WHERE WHAT IT READS IS OF BULK AT MOST 1048576: true; the input reads as it did. -/
def linkPlaysUptoRow : OpenClaim := { program := "ytonjhakjnopbjaa", sum := "50edfcf4d64745fb120d28b6cd42b8ccfc3b75e697f7e64999fc85fd229ecd3b", func := "ponder/ponderlaw26.LinkPlays", spec := "linkPlays", unfollowed := true, recurses := true, apart := false, narrowed := true }
def LinkPlaysUptoSaid : Prop := linkPlaysUptoRow.holds Try.pinned (OpenSpec.upto linkPlaysSpec)

/-- 'ponderlaw26.LinkClones', WHERE WHAT IT READS IS OF BULK AT MOST 1048576: true; the input reads as it did. -/
def linkClonesUptoRow : OpenClaim := { program := "ytonjhakjnopbjaa", sum := "50edfcf4d64745fb120d28b6cd42b8ccfc3b75e697f7e64999fc85fd229ecd3b", func := "ponder/ponderlaw26.LinkClones", spec := "linkClones", unfollowed := true, recurses := true, apart := false, narrowed := true }
def LinkClonesUptoSaid : Prop := linkClonesUptoRow.holds Try.pinned (OpenSpec.upto linkClonesSpec)

/-- 'ponderlaw26.LinkReached', WHERE WHAT IT READS IS OF BULK AT MOST 1048576: true; the input reads as it did. -/
def linkReachedUptoRow : OpenClaim := { program := "ytonjhakjnopbjaa", sum := "50edfcf4d64745fb120d28b6cd42b8ccfc3b75e697f7e64999fc85fd229ecd3b", func := "ponder/ponderlaw26.LinkReached", spec := "linkReached", unfollowed := true, recurses := true, apart := false, narrowed := true }
def LinkReachedUptoSaid : Prop := linkReachedUptoRow.holds Try.pinned (OpenSpec.upto linkReachedSpec)

end Rows
end Go.Proofs.Ytonjhakjnopbjaa
