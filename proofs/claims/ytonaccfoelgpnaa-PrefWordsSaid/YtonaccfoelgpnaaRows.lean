/-
  No cell of these rows narrows 'for every input' (looked for: loops, veiled, ifaces, maps, wideKeys, modest, calm, conditions, laid).
  DERIVED. THE GIVEN ROWS OF THIS SEAT. 6 by the template 'for every input the law returns true; each argument reads behind the call as it read before'; 0 by the template 'total and deterministic' (their statements: YtonaccfoelgpnaaTotals.lean).
  GIVEN WITH THE SEED: the statements are not yours to turn. If you find one false, say at which input.
  Laid BY PROGRAM, IN A SANDBOX (cutbox-rows.mjs): the forced cells as the released guide's own fill.sh prints them over the translation 9aec2fc11f6aaedd… (all of the seat's roots in one cut). By AI agents, Wed Nov 11 2026. No macro, syntax, notation, axiom, sorry.
-/
import Derived.Test.YtonaccfoelgpnaaChecked
import GoSem.Claim
import GoSem.ClaimJoined
import GoSem.ClaimMapViews
import Derived.JoinedTies
import Derived.KernelRfl
namespace Go.Proofs.Ytonaccfoelgpnaa
/- THE CELL 'sum', in the pinned program and in every row, IS THE sha256 OF THE DUMP (.gsa) THAT YtonaccfoelgpnaaProg.lean LOADS. Nothing in Lean hashes anything: it is a label: what it is worth is what the hold of that sum in a sandbox is worth. -/
noncomputable def Try.pinned : Pinned := { name := "ytonaccfoelgpnaa", sum := "9aec2fc11f6aaedd249b6489ff5867dd8ffd2e1592f28223ad5f982732e5c38b", checked := Try.checked }
namespace Rows
def none {H : Type} : Left H := { results := [], args := [] }

/-- 'ponderlaw17.PrefElems': WHATEVER THE INPUT: true; the input reads as it did. -/
def prefElemsSpec : ChangeSpec := { name := "prefElems", fn := fun _ => fun
  | [d1, d2] => { results := [.lit (.bool true)], args := [d1, d2] }
  | _ => none }
def prefElemsRow : OpenClaim := { program := "ytonaccfoelgpnaa", sum := "9aec2fc11f6aaedd249b6489ff5867dd8ffd2e1592f28223ad5f982732e5c38b", func := "ponder/ponderlaw17.PrefElems", spec := "prefElems", unfollowed := true, recurses := true, apart := false }
def PrefElemsSaid : Prop := prefElemsRow.holds Try.pinned (OpenSpec.ofChange prefElemsSpec)

/-- ITS FALSE NEIGHBOUR: 'it returns false'. Refute it at one input. -/
def prefElemsWrong : ChangeSpec := { name := "prefElems", fn := fun _ => fun
  | [d1, d2] => { results := [.lit (.bool false)], args := [d1, d2] }
  | _ => none }
def PrefElemsWrongFalsely : Prop := prefElemsRow.holds Try.pinned (OpenSpec.ofChange prefElemsWrong)

/-- 'ponderlaw17.PrefSlots': WHATEVER THE INPUT: true; the input reads as it did. -/
def prefSlotsSpec : ChangeSpec := { name := "prefSlots", fn := fun _ => fun
  | [d1, d2, d3] => { results := [.lit (.bool true)], args := [d1, d2, d3] }
  | _ => none }
def prefSlotsRow : OpenClaim := { program := "ytonaccfoelgpnaa", sum := "9aec2fc11f6aaedd249b6489ff5867dd8ffd2e1592f28223ad5f982732e5c38b", func := "ponder/ponderlaw17.PrefSlots", spec := "prefSlots", unfollowed := true, recurses := true, apart := false }
def PrefSlotsSaid : Prop := prefSlotsRow.holds Try.pinned (OpenSpec.ofChange prefSlotsSpec)

/-- ITS FALSE NEIGHBOUR: 'it returns false'. Refute it at one input. -/
def prefSlotsWrong : ChangeSpec := { name := "prefSlots", fn := fun _ => fun
  | [d1, d2, d3] => { results := [.lit (.bool false)], args := [d1, d2, d3] }
  | _ => none }
def PrefSlotsWrongFalsely : Prop := prefSlotsRow.holds Try.pinned (OpenSpec.ofChange prefSlotsWrong)

/-- 'ponderlaw17.PrefCauses': WHATEVER THE INPUT: true; the input reads as it did. -/
def prefCausesSpec : ChangeSpec := { name := "prefCauses", fn := fun _ => fun
  | [d1, d2, d3] => { results := [.lit (.bool true)], args := [d1, d2, d3] }
  | _ => none }
def prefCausesRow : OpenClaim := { program := "ytonaccfoelgpnaa", sum := "9aec2fc11f6aaedd249b6489ff5867dd8ffd2e1592f28223ad5f982732e5c38b", func := "ponder/ponderlaw17.PrefCauses", spec := "prefCauses", unfollowed := true, recurses := true, apart := false }
def PrefCausesSaid : Prop := prefCausesRow.holds Try.pinned (OpenSpec.ofChange prefCausesSpec)

/-- ITS FALSE NEIGHBOUR: 'it returns false'. Refute it at one input. -/
def prefCausesWrong : ChangeSpec := { name := "prefCauses", fn := fun _ => fun
  | [d1, d2, d3] => { results := [.lit (.bool false)], args := [d1, d2, d3] }
  | _ => none }
def PrefCausesWrongFalsely : Prop := prefCausesRow.holds Try.pinned (OpenSpec.ofChange prefCausesWrong)

/-- 'ponderlaw17.PrefWords': WHATEVER THE INPUT: true; the input reads as it did. -/
def prefWordsSpec : ChangeSpec := { name := "prefWords", fn := fun _ => fun
  | [d] => { results := [.lit (.bool true)], args := [d] }
  | _ => none }
def prefWordsRow : OpenClaim := { program := "ytonaccfoelgpnaa", sum := "9aec2fc11f6aaedd249b6489ff5867dd8ffd2e1592f28223ad5f982732e5c38b", func := "ponder/ponderlaw17.PrefWords", spec := "prefWords", unfollowed := true, recurses := true, apart := false }
def PrefWordsSaid : Prop := prefWordsRow.holds Try.pinned (OpenSpec.ofChange prefWordsSpec)

/-- ITS FALSE NEIGHBOUR: 'it returns false'. Refute it at one input. -/
def prefWordsWrong : ChangeSpec := { name := "prefWords", fn := fun _ => fun
  | [d] => { results := [.lit (.bool false)], args := [d] }
  | _ => none }
def PrefWordsWrongFalsely : Prop := prefWordsRow.holds Try.pinned (OpenSpec.ofChange prefWordsWrong)

/-- 'ponderlaw17.PrefOrders': WHATEVER THE INPUT: true; the input reads as it did. -/
def prefOrdersSpec : ChangeSpec := { name := "prefOrders", fn := fun _ => fun
  | [d1, d2] => { results := [.lit (.bool true)], args := [d1, d2] }
  | _ => none }
def prefOrdersRow : OpenClaim := { program := "ytonaccfoelgpnaa", sum := "9aec2fc11f6aaedd249b6489ff5867dd8ffd2e1592f28223ad5f982732e5c38b", func := "ponder/ponderlaw17.PrefOrders", spec := "prefOrders", unfollowed := true, recurses := true, apart := false }
def PrefOrdersSaid : Prop := prefOrdersRow.holds Try.pinned (OpenSpec.ofChange prefOrdersSpec)

/-- ITS FALSE NEIGHBOUR: 'it returns false'. Refute it at one input. -/
def prefOrdersWrong : ChangeSpec := { name := "prefOrders", fn := fun _ => fun
  | [d1, d2] => { results := [.lit (.bool false)], args := [d1, d2] }
  | _ => none }
def PrefOrdersWrongFalsely : Prop := prefOrdersRow.holds Try.pinned (OpenSpec.ofChange prefOrdersWrong)

/-- 'ponderlaw17.PrefRejects': WHATEVER THE INPUT: true; the input reads as it did. -/
def prefRejectsSpec : ChangeSpec := { name := "prefRejects", fn := fun _ => fun
  | [d1, d2, d3] => { results := [.lit (.bool true)], args := [d1, d2, d3] }
  | _ => none }
def prefRejectsRow : OpenClaim := { program := "ytonaccfoelgpnaa", sum := "9aec2fc11f6aaedd249b6489ff5867dd8ffd2e1592f28223ad5f982732e5c38b", func := "ponder/ponderlaw17.PrefRejects", spec := "prefRejects", unfollowed := true, recurses := true, apart := false }
def PrefRejectsSaid : Prop := prefRejectsRow.holds Try.pinned (OpenSpec.ofChange prefRejectsSpec)

/-- ITS FALSE NEIGHBOUR: 'it returns false'. Refute it at one input. -/
def prefRejectsWrong : ChangeSpec := { name := "prefRejects", fn := fun _ => fun
  | [d1, d2, d3] => { results := [.lit (.bool false)], args := [d1, d2, d3] }
  | _ => none }
def PrefRejectsWrongFalsely : Prop := prefRejectsRow.holds Try.pinned (OpenSpec.ofChange prefRejectsWrong)

/- THE SECOND FORM. 'bulk': how many values and letters a reading holds, each counted each time it is reached (what is shared counts as often as it is met; a slice's spare places count too). A statement '..UptoSaid' is the law's where the arguments, and the package variables that the reading takes, are together of bulk at most 1048576: NARROWER than '..Said'. Prove '..Said' where nothing that the law and all that it calls make is longer than what came in: it says more and counts as full. Else prove '..UptoSaid'. A law counts once. -/
mutual
def uptoBulk {H : Type} : DataW H → Nat
  | .lit (.string bytes) => bytes.length + 1
  | .lit _ => 1
  | .nil => 1
  | .ptr d => uptoBulk d + 1
  | .slice elems spare => uptoBulkAll elems + uptoBulkAll spare + 1
  | .agg parts => uptoBulkAll parts + 1
  | .iface _ d => uptoBulk d + 1
  | .map entries => uptoBulkEntries entries + 1
  | .held _ => 1
def uptoBulkAll {H : Type} : List (DataW H) → Nat
  | [] => 0
  | d :: r => uptoBulk d + uptoBulkAll r
def uptoBulkEntries {H : Type} : List (Lit × DataW H) → Nat
  | [] => 0
  | x :: r => uptoBulkEntry x + uptoBulkEntries r
def uptoBulkEntry {H : Type} : Lit × DataW H → Nat
  | (.string bytes, d) => bytes.length + uptoBulk d + 1
  | (_, d) => uptoBulk d + 1
 end
def uptoSmall : (H : Type) → List (DataW H) → Bool := fun _ ds => decide (uptoBulkAll ds ≤ 1048576)
def OpenSpec.upto (s : _root_.Go.ChangeSpec) : _root_.Go.OpenSpec := { _root_.Go.OpenSpec.ofChange s with cond := some uptoSmall }

/-- 'ponderlaw17.PrefElems', WHERE WHAT IT READS IS OF BULK AT MOST 1048576: true; the input reads as it did. -/
def prefElemsUptoRow : OpenClaim := { program := "ytonaccfoelgpnaa", sum := "9aec2fc11f6aaedd249b6489ff5867dd8ffd2e1592f28223ad5f982732e5c38b", func := "ponder/ponderlaw17.PrefElems", spec := "prefElems", unfollowed := true, recurses := true, apart := false, narrowed := true }
def PrefElemsUptoSaid : Prop := prefElemsUptoRow.holds Try.pinned (OpenSpec.upto prefElemsSpec)

/-- 'ponderlaw17.PrefSlots', WHERE WHAT IT READS IS OF BULK AT MOST 1048576: true; the input reads as it did. -/
def prefSlotsUptoRow : OpenClaim := { program := "ytonaccfoelgpnaa", sum := "9aec2fc11f6aaedd249b6489ff5867dd8ffd2e1592f28223ad5f982732e5c38b", func := "ponder/ponderlaw17.PrefSlots", spec := "prefSlots", unfollowed := true, recurses := true, apart := false, narrowed := true }
def PrefSlotsUptoSaid : Prop := prefSlotsUptoRow.holds Try.pinned (OpenSpec.upto prefSlotsSpec)

/-- 'ponderlaw17.PrefCauses', WHERE WHAT IT READS IS OF BULK AT MOST 1048576: true; the input reads as it did. -/
def prefCausesUptoRow : OpenClaim := { program := "ytonaccfoelgpnaa", sum := "9aec2fc11f6aaedd249b6489ff5867dd8ffd2e1592f28223ad5f982732e5c38b", func := "ponder/ponderlaw17.PrefCauses", spec := "prefCauses", unfollowed := true, recurses := true, apart := false, narrowed := true }
def PrefCausesUptoSaid : Prop := prefCausesUptoRow.holds Try.pinned (OpenSpec.upto prefCausesSpec)

/-- 'ponderlaw17.PrefWords', WHERE WHAT IT READS IS OF BULK AT MOST 1048576: true; the input reads as it did. -/
def prefWordsUptoRow : OpenClaim := { program := "ytonaccfoelgpnaa", sum := "9aec2fc11f6aaedd249b6489ff5867dd8ffd2e1592f28223ad5f982732e5c38b", func := "ponder/ponderlaw17.PrefWords", spec := "prefWords", unfollowed := true, recurses := true, apart := false, narrowed := true }
def PrefWordsUptoSaid : Prop := prefWordsUptoRow.holds Try.pinned (OpenSpec.upto prefWordsSpec)

/-- 'ponderlaw17.PrefOrders', WHERE WHAT IT READS IS OF BULK AT MOST 1048576: true; the input reads as it did. -/
def prefOrdersUptoRow : OpenClaim := { program := "ytonaccfoelgpnaa", sum := "9aec2fc11f6aaedd249b6489ff5867dd8ffd2e1592f28223ad5f982732e5c38b", func := "ponder/ponderlaw17.PrefOrders", spec := "prefOrders", unfollowed := true, recurses := true, apart := false, narrowed := true }
def PrefOrdersUptoSaid : Prop := prefOrdersUptoRow.holds Try.pinned (OpenSpec.upto prefOrdersSpec)

/-- 'ponderlaw17.PrefRejects', WHERE WHAT IT READS IS OF BULK AT MOST 1048576: true; the input reads as it did. -/
def prefRejectsUptoRow : OpenClaim := { program := "ytonaccfoelgpnaa", sum := "9aec2fc11f6aaedd249b6489ff5867dd8ffd2e1592f28223ad5f982732e5c38b", func := "ponder/ponderlaw17.PrefRejects", spec := "prefRejects", unfollowed := true, recurses := true, apart := false, narrowed := true }
def PrefRejectsUptoSaid : Prop := prefRejectsUptoRow.holds Try.pinned (OpenSpec.upto prefRejectsSpec)

end Rows
end Go.Proofs.Ytonaccfoelgpnaa
