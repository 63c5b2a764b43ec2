/- Literals that stay, and other short cuts. Plain library, no program in sight. -/
import Derived.Test.YtlognaddmbolgaaSl9
namespace Go.Sl
open Go Go.Proofs Go.RowKit

section
variable {w0 : World} {A : SProp} {L : List SProp} {ro : Option Nat} {P : Program} {Q : Exit → Act → World → Prop} {all : Array Oper} {os : List Oper} {n : Nat} {ρ : Nat → Value} {ds : List Nat}
variable {d : Option Tmp} {ty : TypeId} {pos : String} {af : Array Edge} {x y : Operand}
variable {α : Type} {enc : α → List Value} {sz : Nat} {xs : List α} {S : Option Addr}
/-- A literal that stays as it is. -/
theorem o_litP {t e : TypeId} {len : Nat} {parts : Array (Nat × Operand)} (enc : α → List Value) (xs : List α) (cs : Array Value) (hr : ∀ w, (Instr.buildSlice t len (parts.map fun (i, x) => (i, ev n ρ x))).run P w = .ok (.slice (some ⟨w.heap.size, 0, none⟩) len len) (w.alloc (.cells cs e)))
    [en : EncLen enc sz] (hcs : cs.toList = xs.flatMap enc) (hm : xs.length ≤ maxLen)
    (h : ∀ b, G w0 A (psl enc sz (some ⟨b, 0, none⟩) xs :: L) (fun w => runL ro P all Q os (act n (updo ρ d (.slice (some ⟨b, 0, none⟩) len len)) ds) w)) :
    G w0 A L (fun w => runL ro P all Q ({ dst := d, op := .buildSlice t len parts, type := ty, pos := pos, after := af, guard := none } :: os) (act n ρ ds) w) :=
  o_slice_lit (e := e) cs hr fun b => G.lit_slice (enc := enc) (sz := sz) xs hcs hm (G.freeze_slice (h b))
/-- A floating literal: what is said of it. -/
theorem fl_lit {l : List Oper} {t e : TypeId} {len : Nat} {parts : Array (Nat × Operand)} (enc : α → List Value) (xs : List α) (cs : Array Value) (hr : ∀ w, (Instr.buildSlice t len (parts.map fun (i, x) => (i, ev n ρ x))).run P w = .ok (.slice (some ⟨w.heap.size, 0, none⟩) len len) (w.alloc (.cells cs e)))
    [en : EncLen enc sz] (hcs : cs.toList = xs.flatMap enc) (hm : xs.length ≤ maxLen) {Lq : List SProp} (X : List SProp) :
    OStep w0 A ro P all n ds ρ (Lq ++ X) { dst := d, op := .buildSlice t len parts, type := ty, pos := pos, after := af, guard := none }
      (fun v M => ∃ M', Ent (sl M) (sl (Lq ++ (X ++ M'))) ∧ ∃ b, v = .slice (some ⟨b, 0, none⟩) len len ∧ M' = [psl enc sz (some ⟨b, 0, none⟩) xs]) := fun Q h =>
  o_litP enc xs cs hr hcs hm fun b => g_end (h _ _ ⟨[psl enc sz (some ⟨b, 0, none⟩) xs], sl_perm (by
    rw [← List.append_assoc]
    exact List.perm_append_comm (l₁ := [psl enc sz (some ⟨b, 0, none⟩) xs]) (l₂ := Lq ++ X)), b, rfl, rfl⟩)
end
end Go.Sl
