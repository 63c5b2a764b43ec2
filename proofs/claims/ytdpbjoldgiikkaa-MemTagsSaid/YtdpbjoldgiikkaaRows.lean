/-
  No cell of these rows narrows 'for every input' (looked for: loops, veiled, ifaces, maps, wideKeys, modest, calm, conditions, laid).
  DERIVED. THE GIVEN ROWS OF THIS SEAT. 6 by the template 'for every input the law returns true; each argument reads behind the call as it read before'; 0 by the template 'total and deterministic' (their statements: YtdpbjoldgiikkaaTotals.lean).
  GIVEN WITH THE SEED: the statements are not yours to turn. If you find one false, say at which input.
  Laid BY PROGRAM, IN A SANDBOX (cutbox-rows.mjs): the forced cells as the released guide's own fill.sh prints them over the translation b06ed1ed0fa05aae… (all of the seat's roots in one cut). By AI agents, Wed Nov 11 2026. No macro, syntax, notation, axiom, sorry.
-/
import Derived.Test.YtdpbjoldgiikkaaChecked
import GoSem.Claim
import GoSem.ClaimJoined
import GoSem.ClaimMapViews
import Derived.JoinedTies
import Derived.KernelRfl
namespace Go.Proofs.Ytdpbjoldgiikkaa
/- THE CELL 'sum', in the pinned program and in every row, IS THE sha256 OF THE DUMP (.gsa) THAT YtdpbjoldgiikkaaProg.lean LOADS. Nothing in Lean hashes anything: it is a label: what it is worth is what the hold of that sum in a sandbox is worth. -/
noncomputable def Try.pinned : Pinned := { name := "ytdpbjoldgiikkaa", sum := "b06ed1ed0fa05aae9f375cf829d9d0182b80136bf4cf03743606ab5fda4f47cb", checked := Try.checked }
namespace Rows
def none {H : Type} : Left H := { results := [], args := [] }

/-- 'ponderlaw10.MemWords': WHATEVER THE INPUT: true; the input reads as it did. -/
def memWordsSpec : ChangeSpec := { name := "memWords", fn := fun _ => fun
  | [d] => { results := [.lit (.bool true)], args := [d] }
  | _ => none }
def memWordsRow : OpenClaim := { program := "ytdpbjoldgiikkaa", sum := "b06ed1ed0fa05aae9f375cf829d9d0182b80136bf4cf03743606ab5fda4f47cb", func := "ponder/ponderlaw10.MemWords", spec := "memWords", unfollowed := true, recurses := true, apart := false }
def MemWordsSaid : Prop := memWordsRow.holds Try.pinned (OpenSpec.ofChange memWordsSpec)

/-- ITS FALSE NEIGHBOUR: 'it returns false'. Refute it at one input. -/
def memWordsWrong : ChangeSpec := { name := "memWords", fn := fun _ => fun
  | [d] => { results := [.lit (.bool false)], args := [d] }
  | _ => none }
def MemWordsWrongFalsely : Prop := memWordsRow.holds Try.pinned (OpenSpec.ofChange memWordsWrong)

/-- 'ponderlaw10.MemRooms': WHATEVER THE INPUT: true; the input reads as it did. -/
def memRoomsSpec : ChangeSpec := { name := "memRooms", fn := fun _ => fun
  | [d1, d2, d3] => { results := [.lit (.bool true)], args := [d1, d2, d3] }
  | _ => none }
def memRoomsRow : OpenClaim := { program := "ytdpbjoldgiikkaa", sum := "b06ed1ed0fa05aae9f375cf829d9d0182b80136bf4cf03743606ab5fda4f47cb", func := "ponder/ponderlaw10.MemRooms", spec := "memRooms", unfollowed := true, recurses := true, apart := false }
def MemRoomsSaid : Prop := memRoomsRow.holds Try.pinned (OpenSpec.ofChange memRoomsSpec)

/-- ITS FALSE NEIGHBOUR: 'it returns false'. Refute it at one input. -/
def memRoomsWrong : ChangeSpec := { name := "memRooms", fn := fun _ => fun
  | [d1, d2, d3] => { results := [.lit (.bool false)], args := [d1, d2, d3] }
  | _ => none }
def MemRoomsWrongFalsely : Prop := memRoomsRow.holds Try.pinned (OpenSpec.ofChange memRoomsWrong)

/-- 'ponderlaw10.MemOrders': WHATEVER THE INPUT: true; the input reads as it did. -/
def memOrdersSpec : ChangeSpec := { name := "memOrders", fn := fun _ => fun
  | [d1, d2] => { results := [.lit (.bool true)], args := [d1, d2] }
  | _ => none }
def memOrdersRow : OpenClaim := { program := "ytdpbjoldgiikkaa", sum := "b06ed1ed0fa05aae9f375cf829d9d0182b80136bf4cf03743606ab5fda4f47cb", func := "ponder/ponderlaw10.MemOrders", spec := "memOrders", unfollowed := true, recurses := true, apart := false }
def MemOrdersSaid : Prop := memOrdersRow.holds Try.pinned (OpenSpec.ofChange memOrdersSpec)

/-- ITS FALSE NEIGHBOUR: 'it returns false'. Refute it at one input. -/
def memOrdersWrong : ChangeSpec := { name := "memOrders", fn := fun _ => fun
  | [d1, d2] => { results := [.lit (.bool false)], args := [d1, d2] }
  | _ => none }
def MemOrdersWrongFalsely : Prop := memOrdersRow.holds Try.pinned (OpenSpec.ofChange memOrdersWrong)

/-- 'ponderlaw10.MemTags': WHATEVER THE INPUT: true; the input reads as it did. -/
def memTagsSpec : ChangeSpec := { name := "memTags", fn := fun _ => fun
  | [d] => { results := [.lit (.bool true)], args := [d] }
  | _ => none }
def memTagsRow : OpenClaim := { program := "ytdpbjoldgiikkaa", sum := "b06ed1ed0fa05aae9f375cf829d9d0182b80136bf4cf03743606ab5fda4f47cb", func := "ponder/ponderlaw10.MemTags", spec := "memTags", unfollowed := true, recurses := true, apart := false }
def MemTagsSaid : Prop := memTagsRow.holds Try.pinned (OpenSpec.ofChange memTagsSpec)

/-- ITS FALSE NEIGHBOUR: 'it returns false'. Refute it at one input. -/
def memTagsWrong : ChangeSpec := { name := "memTags", fn := fun _ => fun
  | [d] => { results := [.lit (.bool false)], args := [d] }
  | _ => none }
def MemTagsWrongFalsely : Prop := memTagsRow.holds Try.pinned (OpenSpec.ofChange memTagsWrong)

/-- 'ponderlaw10.MemPlays': WHATEVER THE INPUT: true; the input reads as it did. -/
def memPlaysSpec : ChangeSpec := { name := "memPlays", fn := fun _ => fun
  | [d1, d2] => { results := [.lit (.bool true)], args := [d1, d2] }
  | _ => none }
def memPlaysRow : OpenClaim := { program := "ytdpbjoldgiikkaa", sum := "b06ed1ed0fa05aae9f375cf829d9d0182b80136bf4cf03743606ab5fda4f47cb", func := "ponder/ponderlaw10.MemPlays", spec := "memPlays", unfollowed := true, recurses := true, apart := false }
def MemPlaysSaid : Prop := memPlaysRow.holds Try.pinned (OpenSpec.ofChange memPlaysSpec)

/-- ITS FALSE NEIGHBOUR: 'it returns false'. Refute it at one input. -/
def memPlaysWrong : ChangeSpec := { name := "memPlays", fn := fun _ => fun
  | [d1, d2] => { results := [.lit (.bool false)], args := [d1, d2] }
  | _ => none }
def MemPlaysWrongFalsely : Prop := memPlaysRow.holds Try.pinned (OpenSpec.ofChange memPlaysWrong)

/-- 'ponderlaw10.MemIndexes': WHATEVER THE INPUT: true; the input reads as it did. -/
def memIndexesSpec : ChangeSpec := { name := "memIndexes", fn := fun _ => fun
  | [d1, d2, d3, d4, d5] => { results := [.lit (.bool true)], args := [d1, d2, d3, d4, d5] }
  | _ => none }
def memIndexesRow : OpenClaim := { program := "ytdpbjoldgiikkaa", sum := "b06ed1ed0fa05aae9f375cf829d9d0182b80136bf4cf03743606ab5fda4f47cb", func := "ponder/ponderlaw10.MemIndexes", spec := "memIndexes", unfollowed := true, recurses := true, apart := false }
def MemIndexesSaid : Prop := memIndexesRow.holds Try.pinned (OpenSpec.ofChange memIndexesSpec)

/-- ITS FALSE NEIGHBOUR: 'it returns false'. Refute it at one input. -/
def memIndexesWrong : ChangeSpec := { name := "memIndexes", fn := fun _ => fun
  | [d1, d2, d3, d4, d5] => { results := [.lit (.bool false)], args := [d1, d2, d3, d4, d5] }
  | _ => none }
def MemIndexesWrongFalsely : Prop := memIndexesRow.holds Try.pinned (OpenSpec.ofChange memIndexesWrong)

/- THE SECOND FORM. 'bulk': how many values and letters a reading holds, each counted each time it is reached (what is shared counts as often as it is met; a slice's spare places count too). A statement '..UptoSaid' is the law's where the arguments, and the package variables that the reading takes, are together of bulk at most 1048576: NARROWER than '..Said'. Prove '..Said' where nothing that the law and all that it calls make is longer than what came in: it says more and counts as full. Else prove '..UptoSaid'. A law counts once. -/
mutual
def uptoBulk {H : Type} : DataW H → Nat
  | .lit (.string bytes) => bytes.length + 1
  | .lit _ => 1
  | .nil => 1
  | .ptr d => uptoBulk d + 1
  | .slice elems spare => uptoBulkAll elems + uptoBulkAll spare + 1
  | .agg parts => uptoBulkAll parts + 1
  | .iface _ d => uptoBulk d + 1
  | .map entries => uptoBulkEntries entries + 1
  | .held _ => 1
def uptoBulkAll {H : Type} : List (DataW H) → Nat
  | [] => 0
  | d :: r => uptoBulk d + uptoBulkAll r
def uptoBulkEntries {H : Type} : List (Lit × DataW H) → Nat
  | [] => 0
  | x :: r => uptoBulkEntry x + uptoBulkEntries r
def uptoBulkEntry {H : Type} : Lit × DataW H → Nat
  | (.string bytes, d) => bytes.length + uptoBulk d + 1
  | (_, d) => uptoBulk d + 1
 end
def uptoSmall : (H : Type) → List (DataW H) → Bool := fun _ ds => decide (uptoBulkAll ds ≤ 1048576)
def OpenSpec.upto (s : _root_.Go.ChangeSpec) : _root_.Go.OpenSpec := { _root_.Go.OpenSpec.ofChange s with cond := some uptoSmall }

/-- 'ponderlaw10.MemWords', WHERE WHAT IT READS IS OF BULK AT MOST 1048576: true; the input reads as it did. -/
def memWordsUptoRow : OpenClaim := { program := "ytdpbjoldgiikkaa", sum := "b06ed1ed0fa05aae9f375cf829d9d0182b80136bf4cf03743606ab5fda4f47cb", func := "ponder/ponderlaw10.MemWords", spec := "memWords", unfollowed := true, recurses := true, apart := false, narrowed := true }
def MemWordsUptoSaid : Prop := memWordsUptoRow.holds Try.pinned (OpenSpec.upto memWordsSpec)

/-- 'ponderlaw10.MemRooms', WHERE WHAT IT READS IS OF BULK AT MOST 1048576: true; the input reads as it did. -/
def memRoomsUptoRow : OpenClaim := { program := "ytdpbjoldgiikkaa", sum := "b06ed1ed0fa05aae9f375cf829d9d0182b80136bf4cf03743606ab5fda4f47cb", func := "ponder/ponderlaw10.MemRooms", spec := "memRooms", unfollowed := true, recurses := true, apart := false, narrowed := true }
def MemRoomsUptoSaid : Prop := memRoomsUptoRow.holds Try.pinned (OpenSpec.upto memRoomsSpec)

/-- 'ponderlaw10.MemOrders', WHERE WHAT IT READS IS OF BULK AT MOST 1048576: true; the input reads as it did. -/
def memOrdersUptoRow : OpenClaim := { program := "ytdpbjoldgiikkaa", sum := "b06ed1ed0fa05aae9f375cf829d9d0182b80136bf4cf03743606ab5fda4f47cb", func := "ponder/ponderlaw10.MemOrders", spec := "memOrders", unfollowed := true, recurses := true, apart := false, narrowed := true }
def MemOrdersUptoSaid : Prop := memOrdersUptoRow.holds Try.pinned (OpenSpec.upto memOrdersSpec)

/-- 'ponderlaw10.MemTags', WHERE WHAT IT READS IS OF BULK AT MOST 1048576: true; the input reads as it did. -/
def memTagsUptoRow : OpenClaim := { program := "ytdpbjoldgiikkaa", sum := "b06ed1ed0fa05aae9f375cf829d9d0182b80136bf4cf03743606ab5fda4f47cb", func := "ponder/ponderlaw10.MemTags", spec := "memTags", unfollowed := true, recurses := true, apart := false, narrowed := true }
def MemTagsUptoSaid : Prop := memTagsUptoRow.holds Try.pinned (OpenSpec.upto memTagsSpec)

/-- 'ponderlaw10.MemPlays', WHERE WHAT IT READS IS OF BULK AT MOST 1048576: true; the input reads as it did. -/
def memPlaysUptoRow : OpenClaim := { program := "ytdpbjoldgiikkaa", sum := "b06ed1ed0fa05aae9f375cf829d9d0182b80136bf4cf03743606ab5fda4f47cb", func := "ponder/ponderlaw10.MemPlays", spec := "memPlays", unfollowed := true, recurses := true, apart := false, narrowed := true }
def MemPlaysUptoSaid : Prop := memPlaysUptoRow.holds Try.pinned (OpenSpec.upto memPlaysSpec)

/-- 'ponderlaw10.MemIndexes', WHERE WHAT IT READS IS OF BULK AT MOST 1048576: true; the input reads as it did. -/
def memIndexesUptoRow : OpenClaim := { program := "ytdpbjoldgiikkaa", sum := "b06ed1ed0fa05aae9f375cf829d9d0182b80136bf4cf03743606ab5fda4f47cb", func := "ponder/ponderlaw10.MemIndexes", spec := "memIndexes", unfollowed := true, recurses := true, apart := false, narrowed := true }
def MemIndexesUptoSaid : Prop := memIndexesUptoRow.holds Try.pinned (OpenSpec.upto memIndexesSpec)

end Rows
end Go.Proofs.Ytdpbjoldgiikkaa
