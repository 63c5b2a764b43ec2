/- Preferences and their slots. -/
import Derived.Test.YthledhcealmkbaaB3
namespace Go.Proofs.Ythledhcealmkbaa
open Go Go.Sl
attribute [local irreducible] Code.wpIn roundPost bodyPostM runL Ret Meets Begin

structure PrefD where
  id : SymD
  attr : SymD
  value : SymD
  other : SymD
  kind : Int
  o : Bool
  level : Int
  by_ : Int
def PrefD.val (e : PrefD) : Value := .agg #[.int .i64 e.id.kind, .string e.id.text, .int .i64 e.id.n, .int .i64 e.attr.kind, .string e.attr.text, .int .i64 e.attr.n, .int .i64 e.value.kind, .string e.value.text, .int .i64 e.value.n,
  .int .i64 e.other.kind, .string e.other.text, .int .i64 e.other.n, .int .i64 e.kind, .bool e.o, .int .i64 e.level, .int .i64 e.by_]
def PrefD.slot (p : PrefD) : Bool := p.attr.beq opSym
theorem Slot_spec (p : PrefD) : Ctr Try.prog 24 [p.val] [] (fun v M => v = .bool p.slot ∧ M = []) := by
  refine spec_of Try.func24 rfl Try.ntmps24 rfl fun w0 F => ?_
  repeat (first | refine g_endt ?_ | refine g_end ?_ | refine g_then ?_ | refine g_in_normal ?_ | refine g_then_ret ?_ | refine g_in_ret ?_ | refine g_then_exit ?_ | refine g_in_exit rfl ?_ | refine g_in_exit_ne (by decide) ?_ | refine g_seq ?_ | refine g_region ?_ | refine g_block ?_ | refine g_ret ?_ | refine g_return_n ?_ | refine g_exit ?_ | refine g_skip ?_)
  refine o_boxc p.val.cells rfl rfl fun b => ?_
  refine o_assign ?_
  first | refine g_endt ?_ | refine g_end ?_
  repeat (first | refine g_endt ?_ | refine g_end ?_ | refine g_then ?_ | refine g_in_normal ?_ | refine g_then_ret ?_ | refine g_in_ret ?_ | refine g_then_exit ?_ | refine g_in_exit rfl ?_ | refine g_in_exit_ne (by decide) ?_ | refine g_seq ?_ | refine g_region ?_ | refine g_block ?_ | refine g_ret ?_ | refine g_return_n ?_ | refine g_exit ?_ | refine g_skip ?_)
  refine o_field rfl ?_
  refine o_loadN (v := p.attr.val) rfl rfl rfl ?_
  refine o_call (operator_spec p.attr) rfl rfl ?_
  rintro _ _ ⟨rfl, rfl⟩
  refine o_assign ?_
  first | refine g_endt ?_ | refine g_end ?_
  repeat (first | refine g_endt ?_ | refine g_end ?_ | refine g_then ?_ | refine g_in_normal ?_ | refine g_then_ret ?_ | refine g_in_ret ?_ | refine g_then_exit ?_ | refine g_in_exit rfl ?_ | refine g_in_exit_ne (by decide) ?_ | refine g_seq ?_ | refine g_region ?_ | refine g_block ?_ | refine g_ret ?_ | refine g_return_n ?_ | refine g_exit ?_ | refine g_skip ?_)
  exact ret1 rfl (resT rfl) ⟨rfl, rfl⟩
theorem Slotref_spec (p : PrefD) : Ctr Try.prog 23 [p.val] [] (fun v M => v = .bool p.slot ∧ M = []) := by
  refine spec_of Try.func23 rfl Try.ntmps23 rfl fun w0 F => ?_
  repeat (first | refine g_endt ?_ | refine g_end ?_ | refine g_then ?_ | refine g_in_normal ?_ | refine g_then_ret ?_ | refine g_in_ret ?_ | refine g_then_exit ?_ | refine g_in_exit rfl ?_ | refine g_in_exit_ne (by decide) ?_ | refine g_seq ?_ | refine g_region ?_ | refine g_block ?_ | refine g_ret ?_ | refine g_return_n ?_ | refine g_exit ?_ | refine g_skip ?_)
  refine o_boxc p.val.cells rfl rfl fun b => ?_
  refine o_assign ?_
  first | refine g_endt ?_ | refine g_end ?_
  refine g_seq ?_
  refine g_draw [] [0,1,2,3,4] [cellsB b p.val.cells 47] mixed rfl ?_
  refine ob_q rfl rfl ⟨_, fun X Q h => o_field rfl (g_end (h _ _ ⟨rfl, rfl⟩)), ?_⟩
  refine ob_q rfl rfl ⟨_, fun X Q h => o_loadN (v := p.attr.val) rfl rfl rfl (g_end (h _ _ ⟨rfl, rfl⟩)), ?_⟩
  refine ob_q rfl rfl ⟨_, fun X Q h => o_call opref_spec rfl rfl <| by rintro _ _ ⟨rfl, rfl⟩; exact (g_end (h _ _ ⟨rfl, rfl⟩)), ?_⟩
  refine ob_q rfl rfl ⟨_, fun X Q h => o_eqty rfl rfl (eq_sym p.attr opSym) (g_end (h _ _ ⟨rfl, rfl⟩)), ?_⟩
  refine ob_q rfl rfl ⟨_, fun X Q h => o_assign (g_end (h _ _ ⟨rfl, rfl⟩)), ?_⟩
  refine ob_nil ?_
  repeat (first | refine g_endt ?_ | refine g_end ?_ | refine g_then ?_ | refine g_in_normal ?_ | refine g_then_ret ?_ | refine g_in_ret ?_ | refine g_then_exit ?_ | refine g_in_exit rfl ?_ | refine g_in_exit_ne (by decide) ?_ | refine g_seq ?_ | refine g_region ?_ | refine g_block ?_ | refine g_ret ?_ | refine g_return_n ?_ | refine g_exit ?_ | refine g_skip ?_)
  exact ret1 rfl (resT rfl) ⟨rfl, rfl⟩
theorem OfPref_spec (p : PrefD) (o : Bool) : Ctr Try.prog 25 [p.val, .bool o] [] (fun v M => v = .bool (o && !p.slot) ∧ M = []) := by
  refine spec_of Try.func25 rfl Try.ntmps25 rfl fun w0 F => ?_
  repeat (first | refine g_endt ?_ | refine g_end ?_ | refine g_then ?_ | refine g_in_normal ?_ | refine g_then_ret ?_ | refine g_in_ret ?_ | refine g_then_exit ?_ | refine g_in_exit rfl ?_ | refine g_in_exit_ne (by decide) ?_ | refine g_seq ?_ | refine g_region ?_ | refine g_block ?_ | refine g_ret ?_ | refine g_return_n ?_ | refine g_exit ?_ | refine g_skip ?_)
  refine o_boxc p.val.cells rfl rfl fun b => ?_
  refine o_assign ?_
  first | refine g_endt ?_ | refine g_end ?_
  repeat (first | refine g_endt ?_ | refine g_end ?_ | refine g_then ?_ | refine g_in_normal ?_ | refine g_then_ret ?_ | refine g_in_ret ?_ | refine g_then_exit ?_ | refine g_in_exit rfl ?_ | refine g_in_exit_ne (by decide) ?_ | refine g_seq ?_ | refine g_region ?_ | refine g_block ?_ | refine g_ret ?_ | refine g_return_n ?_ | refine g_exit ?_ | refine g_skip ?_)
  cases o
  · refine o_move ?_
    refine o_move ?_
    refine o_unwanted rfl rfl rfl rfl rfl ?_
    refine o_unwanted rfl rfl rfl rfl rfl ?_
    refine o_unwanted rfl rfl rfl rfl rfl ?_
    refine o_pick_f rfl rfl ?_
    refine o_assign ?_
    first | refine g_endt ?_ | refine g_end ?_
    repeat (first | refine g_endt ?_ | refine g_end ?_ | refine g_then ?_ | refine g_in_normal ?_ | refine g_then_ret ?_ | refine g_in_ret ?_ | refine g_then_exit ?_ | refine g_in_exit rfl ?_ | refine g_in_exit_ne (by decide) ?_ | refine g_seq ?_ | refine g_region ?_ | refine g_block ?_ | refine g_ret ?_ | refine g_return_n ?_ | refine g_exit ?_ | refine g_skip ?_)
    exact ret1 rfl (resT rfl) ⟨rfl, rfl⟩
  · refine o_move ?_
    refine o_move ?_
    refine o_want rfl rfl rfl rfl rfl (o_loadN (v := p.val) rfl rfl rfl ?_)
    refine o_want rfl rfl rfl rfl rfl (o_call (Slot_spec p) rfl rfl ?_)
    rintro _ _ ⟨rfl, rfl⟩
    refine o_want rfl rfl rfl rfl rfl (o_not rfl ?_)
    refine o_pick_t rfl rfl ?_
    refine o_assign ?_
    first | refine g_endt ?_ | refine g_end ?_
    repeat (first | refine g_endt ?_ | refine g_end ?_ | refine g_then ?_ | refine g_in_normal ?_ | refine g_then_ret ?_ | refine g_in_ret ?_ | refine g_then_exit ?_ | refine g_in_exit rfl ?_ | refine g_in_exit_ne (by decide) ?_ | refine g_seq ?_ | refine g_region ?_ | refine g_block ?_ | refine g_ret ?_ | refine g_return_n ?_ | refine g_exit ?_ | refine g_skip ?_)
    exact ret1 rfl (resT (v := .bool !p.slot) rfl) ⟨by simp, rfl⟩
theorem boolSelf (a : Bool) : (a == a) = true := by cases a <;> rfl
theorem SuppSlots_spec (p : PrefD) (o word : Bool) : Ctr Try.prog 7 [p.val, .bool o, .bool word] [] (fun v M => v = .bool true ∧ M = []) := by
  refine spec_of Try.func7 rfl Try.ntmps7 rfl fun w0 F => ?_
  repeat (first | refine g_endt ?_ | refine g_end ?_ | refine g_then ?_ | refine g_in_normal ?_ | refine g_then_ret ?_ | refine g_in_ret ?_ | refine g_then_exit ?_ | refine g_in_exit rfl ?_ | refine g_in_exit_ne (by decide) ?_ | refine g_seq ?_ | refine g_region ?_ | refine g_block ?_ | refine g_ret ?_ | refine g_return_n ?_ | refine g_exit ?_ | refine g_skip ?_)
  refine o_boxc p.val.cells rfl rfl fun b => ?_
  refine o_assign ?_
  first | refine g_endt ?_ | refine g_end ?_
  repeat (first | refine g_endt ?_ | refine g_end ?_ | refine g_then ?_ | refine g_in_normal ?_ | refine g_then_ret ?_ | refine g_in_ret ?_ | refine g_then_exit ?_ | refine g_in_exit rfl ?_ | refine g_in_exit_ne (by decide) ?_ | refine g_seq ?_ | refine g_region ?_ | refine g_block ?_ | refine g_ret ?_ | refine g_return_n ?_ | refine g_exit ?_ | refine g_skip ?_)
  refine o_move ?_
  refine g_endt ?_
  refine g_cutk (σ := PrefD) (ds' := []) (S := fun _ => [(1, .bool o), (3, .pointer (some ⟨b, 0, none⟩))]) (H := fun p => [cellsB b p.val.cells 47]) (ok := fun _ => True) ?_ ?_
  · cases word
    · refine g_cond_f rfl rfl ?_
      repeat (first | refine g_endt ?_ | refine g_end ?_ | refine g_then ?_ | refine g_in_normal ?_ | refine g_then_ret ?_ | refine g_in_ret ?_ | refine g_then_exit ?_ | refine g_in_exit rfl ?_ | refine g_in_exit_ne (by decide) ?_ | refine g_seq ?_ | refine g_region ?_ | refine g_block ?_ | refine g_ret ?_ | refine g_return_n ?_ | refine g_exit ?_ | refine g_skip ?_)
      exact g_meets p trivial (Sat.mem ⟨rfl, rfl, trivial⟩)
    · refine g_cond_t rfl rfl ?_
      repeat (first | refine g_endt ?_ | refine g_end ?_ | refine g_then ?_ | refine g_in_normal ?_ | refine g_then_ret ?_ | refine g_in_ret ?_ | refine g_then_exit ?_ | refine g_in_exit rfl ?_ | refine g_in_exit_ne (by decide) ?_ | refine g_seq ?_ | refine g_region ?_ | refine g_block ?_ | refine g_ret ?_ | refine g_return_n ?_ | refine g_exit ?_ | refine g_skip ?_)
      refine o_call (W_spec opText) rfl rfl ?_
      rintro _ _ ⟨rfl, rfl⟩
      refine o_field rfl ?_
      refine o_store (v := opSym.val) rfl rfl rfl rfl rfl ?_
      refine g_endt ?_
      repeat (first | refine g_endt ?_ | refine g_end ?_ | refine g_then ?_ | refine g_in_normal ?_ | refine g_then_ret ?_ | refine g_in_ret ?_ | refine g_then_exit ?_ | refine g_in_exit rfl ?_ | refine g_in_exit_ne (by decide) ?_ | refine g_seq ?_ | refine g_region ?_ | refine g_block ?_ | refine g_ret ?_ | refine g_return_n ?_ | refine g_exit ?_ | refine g_skip ?_)
      obtain ⟨id, attr, value, other, kind, ob, level, by_⟩ := p
      change G _ _ [cellsB b (PrefD.val ⟨id, opSym, value, other, kind, ob, level, by_⟩).cells 47] _
      exact g_meets ⟨id, opSym, value, other, kind, ob, level, by_⟩ trivial (Sat.mem ⟨rfl, rfl, trivial⟩)
  · intro p ρ' _
    repeat (first | refine g_endt ?_ | refine g_end ?_ | refine g_then ?_ | refine g_in_normal ?_ | refine g_then_ret ?_ | refine g_in_ret ?_ | refine g_then_exit ?_ | refine g_in_exit rfl ?_ | refine g_in_exit_ne (by decide) ?_ | refine g_seq ?_ | refine g_region ?_ | refine g_block ?_ | refine g_ret ?_ | refine g_return_n ?_ | refine g_exit ?_ | refine g_skip ?_)
    refine o_loadN (v := p.val) rfl rfl rfl ?_
    refine o_call (Slotref_spec p) rfl rfl ?_
    rintro _ _ ⟨rfl, rfl⟩
    refine o_assign ?_
    first | refine g_endt ?_ | refine g_end ?_
    repeat (first | refine g_endt ?_ | refine g_end ?_ | refine g_then ?_ | refine g_in_normal ?_ | refine g_then_ret ?_ | refine g_in_ret ?_ | refine g_then_exit ?_ | refine g_in_exit rfl ?_ | refine g_in_exit_ne (by decide) ?_ | refine g_seq ?_ | refine g_region ?_ | refine g_block ?_ | refine g_ret ?_ | refine g_return_n ?_ | refine g_exit ?_ | refine g_skip ?_)
    refine o_loadN (v := p.val) rfl rfl rfl ?_
    refine o_call (Slot_spec p) rfl rfl ?_
    rintro _ _ ⟨rfl, rfl⟩
    refine o_move ?_
    refine o_eqty rfl rfl (eq_bool p.slot p.slot) ?_
    rw [boolSelf]
    refine o_move ?_
    refine o_want rfl rfl rfl rfl rfl (o_loadN (v := p.val) rfl rfl rfl ?_)
    refine o_want rfl rfl rfl rfl rfl (o_move ?_)
    refine o_want rfl rfl rfl rfl rfl (o_call (OfPref_spec p o) rfl rfl ?_)
    rintro _ _ ⟨rfl, rfl⟩
    refine o_want rfl rfl rfl rfl rfl (o_move ?_)
    refine o_want rfl rfl rfl rfl rfl (o_move ?_)
    cases o
    · refine o_unwanted rfl rfl rfl rfl rfl ?_
      refine o_unwanted rfl rfl rfl rfl rfl ?_
      refine o_want rfl rfl rfl rfl rfl (o_pick_f rfl rfl ?_)
      refine o_want rfl rfl rfl rfl rfl (o_eqty rfl rfl (eq_bool false false) ?_)
      refine o_pick_t rfl rfl ?_
      refine o_move ?_
      refine o_want rfl rfl rfl rfl rfl (o_call wakes_spec rfl rfl ?_)
      rintro _ _ ⟨rfl, rfl⟩
      refine o_pick_t rfl rfl ?_
      refine o_assign ?_
      refine g_endt ?_
      repeat (first | refine g_endt ?_ | refine g_end ?_ | refine g_then ?_ | refine g_in_normal ?_ | refine g_then_ret ?_ | refine g_in_ret ?_ | refine g_then_exit ?_ | refine g_in_exit rfl ?_ | refine g_in_exit_ne (by decide) ?_ | refine g_seq ?_ | refine g_region ?_ | refine g_block ?_ | refine g_ret ?_ | refine g_return_n ?_ | refine g_exit ?_ | refine g_skip ?_)
      exact ret1 rfl (resT rfl) ⟨rfl, rfl⟩
    · refine o_want rfl rfl rfl rfl rfl (o_move ?_)
      refine o_want rfl rfl rfl rfl rfl (o_not rfl ?_)
      refine o_want rfl rfl rfl rfl rfl (o_pick_t rfl rfl ?_)
      refine o_want rfl rfl rfl rfl rfl (o_eqty (u := .bool !p.slot) (v := .bool !p.slot) rfl rfl (eq_bool (!p.slot) (!p.slot)) ?_)
      rw [boolSelf]
      refine o_pick_t rfl rfl ?_
      refine o_move ?_
      refine o_want rfl rfl rfl rfl rfl (o_call wakes_spec rfl rfl ?_)
      rintro _ _ ⟨rfl, rfl⟩
      refine o_pick_t rfl rfl ?_
      refine o_assign ?_
      refine g_endt ?_
      repeat (first | refine g_endt ?_ | refine g_end ?_ | refine g_then ?_ | refine g_in_normal ?_ | refine g_then_ret ?_ | refine g_in_ret ?_ | refine g_then_exit ?_ | refine g_in_exit rfl ?_ | refine g_in_exit_ne (by decide) ?_ | refine g_seq ?_ | refine g_region ?_ | refine g_block ?_ | refine g_ret ?_ | refine g_return_n ?_ | refine g_exit ?_ | refine g_skip ?_)
      exact ret1 rfl (resT rfl) ⟨rfl, rfl⟩
end Go.Proofs.Ythledhcealmkbaa
