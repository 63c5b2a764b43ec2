/- The support of what an instantiation prefers; the document's example. -/
import Derived.Test.YthledhcealmkbaaB1
namespace Go.Proofs.Ythledhcealmkbaa
open Go Go.Sl
attribute [local irreducible] Code.wpIn roundPost bodyPostM runL Ret Meets Begin

def lev (ns : List Int) (i : Nat) : Int := (ns[i]?).getD 0
def Oat (xs : List ElemD) (ns : List Int) (i : Nat) : Bool := match xs[i]? with
  | some e => e.chosen && decide (lev ns i = most ns)
  | none => false
def OD (xs : List ElemD) (ns : List Int) : Bool := (List.range xs.length).any (Oat xs ns)
theorem OD_true {xs : List ElemD} {ns : List Int} {i : Nat} (hi : i < xs.length) (h : Oat xs ns i = true) : OD xs ns = true := by
  simp only [OD, List.any_eq_true, List.mem_range]
  exact ⟨i, hi, h⟩
theorem OD_false {xs : List ElemD} {ns : List Int} (h : ∀ j, j < xs.length → Oat xs ns j = false) : OD xs ns = false := by
  simp only [OD, List.any_eq_false, List.mem_range]
  exact fun j hj => by simp [h j hj]
theorem O_spec (A B : Option Addr) (la ca lb cb : Nat) (xs : List ElemD) (ns : List Int) (hx : xs.length = la) (hn : ns.length = lb) (ha : la ≤ 9223372036854775807) (hb : lb ≤ 9223372036854775807) :
    Ctr Try.prog 14 [.slice A la ca, .slice B lb cb] [psl encE 12 A xs, psl encI 1 B ns] (fun v M => v = .bool (OD xs ns) ∧ M = []) := by
  refine spec_of Try.func14 rfl Try.ntmps14 rfl fun w0 F => ?_
  repeat (first | refine g_endt ?_ | refine g_end ?_ | refine g_then ?_ | refine g_in_normal ?_ | refine g_then_ret ?_ | refine g_in_ret ?_ | refine g_then_exit ?_ | refine g_in_exit rfl ?_ | refine g_in_exit_ne (by decide) ?_ | refine g_seq ?_ | refine g_region ?_ | refine g_block ?_ | refine g_ret ?_ | refine g_return_n ?_ | refine g_exit ?_ | refine g_skip ?_)
  refine o_assign ?_
  first | refine g_endt ?_ | refine g_end ?_
  repeat (first | refine g_endt ?_ | refine g_end ?_ | refine g_then ?_ | refine g_in_normal ?_ | refine g_then_ret ?_ | refine g_in_ret ?_ | refine g_then_exit ?_ | refine g_in_exit rfl ?_ | refine g_in_exit_ne (by decide) ?_ | refine g_seq ?_ | refine g_region ?_ | refine g_block ?_ | refine g_ret ?_ | refine g_return_n ?_ | refine g_exit ?_ | refine g_skip ?_)
  refine o_move ?_
  -- 1: Op.call { callee := Callee.value (Operand.func 28), args := #[Operand.tmp 9], argTypes := #[22] }
  refine o_call (each_spec B lb cb) rfl rfl ?_
  rintro _ _ ⟨b, rfl, rfl⟩
  refine o_callp (Level_spec 31 [.pointer (some ⟨b, 0, none⟩)] ns [pblk b (.cells #[.slice B lb cb] 22 (0, 0)), psl encI 1 B ns] (fun K => each1_iter b B lb cb ns hn hb _)) rfl rfl ?_
  rintro _ _ ⟨rfl, rfl⟩
  refine o_assign ?_
  first | refine g_endt ?_ | refine g_end ?_
  repeat (first | refine g_endt ?_ | refine g_end ?_ | refine g_then ?_ | refine g_in_normal ?_ | refine g_then_ret ?_ | refine g_in_ret ?_ | refine g_then_exit ?_ | refine g_in_exit rfl ?_ | refine g_in_exit_ne (by decide) ?_ | refine g_seq ?_ | refine g_region ?_ | refine g_block ?_ | refine g_ret ?_ | refine g_return_n ?_ | refine g_exit ?_ | refine g_skip ?_)
  refine o_move ?_
  refine o_len rfl rfl ?_
  refine o_move ?_
  first | refine g_endt ?_ | refine g_end ?_
  repeat (first | refine g_endt ?_ | refine g_end ?_ | refine g_then ?_ | refine g_in_normal ?_ | refine g_then_ret ?_ | refine g_in_ret ?_ | refine g_then_exit ?_ | refine g_in_exit rfl ?_ | refine g_in_exit_ne (by decide) ?_ | refine g_seq ?_ | refine g_region ?_ | refine g_block ?_ | refine g_ret ?_ | refine g_return_n ?_ | refine g_exit ?_ | refine g_skip ?_)
  refine g_loop (σ := {i : Nat // i ≤ xs.length ∧ ∀ j, j < i → Oat xs ns j = false}) (S := fun i => [(1, .slice B lb cb), (5, .int .i64 (most ns)), (12, .slice A la ca), (13, .int .i64 (la : Int)), (14, .int .i64 ((i.1 : Nat) : Int))])
    (H := fun _ => [psl encE 12 A xs, psl encI 1 B ns]) (μ := fun i => xs.length - i.1) (s0 := ⟨0, Nat.zero_le _, fun j h => absurd h (Nat.not_lt_zero j)⟩) (Sat.mem ⟨rfl, rfl, rfl, rfl, rfl, trivial⟩) ?_
  rintro ⟨i, hi, hj⟩ ρ'
  dsimp only
  repeat (first | refine g_endt ?_ | refine g_end ?_ | refine g_then ?_ | refine g_in_normal ?_ | refine g_then_ret ?_ | refine g_in_ret ?_ | refine g_then_exit ?_ | refine g_in_exit rfl ?_ | refine g_in_exit_ne (by decide) ?_ | refine g_seq ?_ | refine g_region ?_ | refine g_block ?_ | refine g_ret ?_ | refine g_return_n ?_ | refine g_exit ?_ | refine g_skip ?_)
  refine o_lss rfl rfl ?_
  first | refine g_endt ?_ | refine g_end ?_
  by_cases h : i < la
  · refine g_seq (g_cond_t rfl (by simpa using h) ?_)
    have hi' : i < xs.length := by omega
    obtain ⟨e, hz⟩ : ∃ e, xs[i]? = some e := ⟨_, List.getElem?_eq_getElem hi'⟩
    repeat (first | refine g_endt ?_ | refine g_end ?_ | refine g_then ?_ | refine g_in_normal ?_ | refine g_then_ret ?_ | refine g_in_ret ?_ | refine g_then_exit ?_ | refine g_in_exit rfl ?_ | refine g_in_exit_ne (by decide) ?_ | refine g_seq ?_ | refine g_region ?_ | refine g_block ?_ | refine g_ret ?_ | refine g_return_n ?_ | refine g_exit ?_ | refine g_skip ?_)
    refine o_move ?_
    refine o_indexR rfl rfl rfl hi' hx rfl ?_
    refine o_loadE (enc := encE) rfl rfl hz ?_
    refine o_alloc fun c => ?_
    refine o_assign ?_
    refine o_store (v := e.val) rfl rfl rfl rfl rfl ?_
    refine g_endt ?_
    change G _ _ [cellsB c e.val.cells 35, psl encE 12 A xs, psl encI 1 B ns] _
    repeat (first | refine g_endt ?_ | refine g_end ?_ | refine g_then ?_ | refine g_in_normal ?_ | refine g_then_ret ?_ | refine g_in_ret ?_ | refine g_then_exit ?_ | refine g_in_exit rfl ?_ | refine g_in_exit_ne (by decide) ?_ | refine g_seq ?_ | refine g_region ?_ | refine g_block ?_ | refine g_ret ?_ | refine g_return_n ?_ | refine g_exit ?_ | refine g_skip ?_)
    refine o_assign ?_
    first | refine g_endt ?_ | refine g_end ?_
    repeat (first | refine g_endt ?_ | refine g_end ?_ | refine g_then ?_ | refine g_in_normal ?_ | refine g_then_ret ?_ | refine g_in_ret ?_ | refine g_then_exit ?_ | refine g_in_exit rfl ?_ | refine g_in_exit_ne (by decide) ?_ | refine g_seq ?_ | refine g_region ?_ | refine g_block ?_ | refine g_ret ?_ | refine g_return_n ?_ | refine g_exit ?_ | refine g_skip ?_)
    refine o_move ?_
    refine o_move ?_
    refine o_len rfl rfl ?_
    refine o_lss rfl rfl ?_
    first | refine g_endt ?_ | refine g_end ?_
    refine g_cutk (σ := Unit) (ds' := []) (S := fun _ => [(1, .slice B lb cb), (5, .int .i64 (most ns)), (12, .slice A la ca), (13, .int .i64 (la : Int)), (14, .int .i64 (i : Int)), (7, .pointer (some ⟨c, 0, none⟩)), (8, .int .i64 (lev ns i))])
      (H := fun _ => [cellsB c e.val.cells 35, psl encE 12 A xs, psl encI 1 B ns]) (ok := fun _ => True) ?_ ?_
    · by_cases hl : i < lb
      · refine g_cond_t rfl (by simpa using hl) ?_
        have hl' : i < ns.length := by omega
        obtain ⟨m, hm⟩ : ∃ m, ns[i]? = some m := ⟨_, List.getElem?_eq_getElem hl'⟩
        have e1 : lev ns i = m := by simp [lev, hm]
        repeat (first | refine g_endt ?_ | refine g_end ?_ | refine g_then ?_ | refine g_in_normal ?_ | refine g_then_ret ?_ | refine g_in_ret ?_ | refine g_then_exit ?_ | refine g_in_exit rfl ?_ | refine g_in_exit_ne (by decide) ?_ | refine g_seq ?_ | refine g_region ?_ | refine g_block ?_ | refine g_ret ?_ | refine g_return_n ?_ | refine g_exit ?_ | refine g_skip ?_)
        refine o_move ?_
        refine o_move ?_
        refine o_indexR rfl rfl rfl hl' hn rfl ?_
        refine o_loadE0 (enc := encI) (v := .int .i64 m) rfl hm rfl ?_
        refine o_assign ?_
        first | refine g_endt ?_ | refine g_end ?_
        repeat (first | refine g_endt ?_ | refine g_end ?_ | refine g_then ?_ | refine g_in_normal ?_ | refine g_then_ret ?_ | refine g_in_ret ?_ | refine g_then_exit ?_ | refine g_in_exit rfl ?_ | refine g_in_exit_ne (by decide) ?_ | refine g_seq ?_ | refine g_region ?_ | refine g_block ?_ | refine g_ret ?_ | refine g_return_n ?_ | refine g_exit ?_ | refine g_skip ?_)
        exact g_meets () trivial (Sat.mem ⟨rfl, rfl, rfl, rfl, rfl, rfl, by rw [e1]; rfl, trivial⟩)
      · refine g_cond_f rfl (by simpa using hl) ?_
        have e1 : lev ns i = 0 := by simp [lev, List.getElem?_eq_none (show ns.length ≤ i by omega)]
        repeat (first | refine g_endt ?_ | refine g_end ?_ | refine g_then ?_ | refine g_in_normal ?_ | refine g_then_ret ?_ | refine g_in_ret ?_ | refine g_then_exit ?_ | refine g_in_exit rfl ?_ | refine g_in_exit_ne (by decide) ?_ | refine g_seq ?_ | refine g_region ?_ | refine g_block ?_ | refine g_ret ?_ | refine g_return_n ?_ | refine g_exit ?_ | refine g_skip ?_)
        exact g_meets () trivial (Sat.mem ⟨rfl, rfl, rfl, rfl, rfl, rfl, by rw [e1]; rfl, trivial⟩)
    · intro _ ρ'' _
      repeat (first | refine g_endt ?_ | refine g_end ?_ | refine g_then ?_ | refine g_in_normal ?_ | refine g_then_ret ?_ | refine g_in_ret ?_ | refine g_then_exit ?_ | refine g_in_exit rfl ?_ | refine g_in_exit_ne (by decide) ?_ | refine g_seq ?_ | refine g_region ?_ | refine g_block ?_ | refine g_ret ?_ | refine g_return_n ?_ | refine g_exit ?_ | refine g_skip ?_)
      refine o_loadN (v := e.val) rfl rfl rfl ?_
      refine o_call (Chosen_spec e) rfl rfl ?_
      rintro _ _ ⟨rfl, rfl⟩
      cases hc : e.chosen
      · skip
        refine o_move ?_
        first | (refine o_want rfl rfl rfl rfl rfl ?_; refine o_move ?_) | refine o_unwanted rfl rfl rfl rfl rfl ?_ | refine o_undef rfl rfl rfl ?_
        first | (refine o_want rfl rfl rfl rfl rfl ?_; refine o_move ?_) | refine o_unwanted rfl rfl rfl rfl rfl ?_ | refine o_undef rfl rfl rfl ?_
        first | (refine o_want rfl rfl rfl rfl rfl ?_; refine o_eql rfl rfl ?_) | refine o_unwanted rfl rfl rfl rfl rfl ?_ | refine o_undef rfl rfl rfl ?_
        first | refine o_pick_t rfl rfl ?_ | refine o_pick_f rfl rfl ?_
        first | refine g_endt ?_ | refine g_end ?_
        refine g_cond_f rfl rfl ?_
        repeat (first | refine g_endt ?_ | refine g_end ?_ | refine g_then ?_ | refine g_in_normal ?_ | refine g_then_ret ?_ | refine g_in_ret ?_ | refine g_then_exit ?_ | refine g_in_exit rfl ?_ | refine g_in_exit_ne (by decide) ?_ | refine g_seq ?_ | refine g_region ?_ | refine g_block ?_ | refine g_ret ?_ | refine g_return_n ?_ | refine g_exit ?_ | refine g_skip ?_)
        refine o_add rfl rfl rfl (by omega) (by omega) ?_
        refine o_move ?_
        first | refine g_endt ?_ | refine g_end ?_
        repeat (first | refine g_endt ?_ | refine g_end ?_ | refine g_then ?_ | refine g_in_normal ?_ | refine g_then_ret ?_ | refine g_in_ret ?_ | refine g_then_exit ?_ | refine g_in_exit rfl ?_ | refine g_in_exit_ne (by decide) ?_ | refine g_seq ?_ | refine g_region ?_ | refine g_block ?_ | refine g_ret ?_ | refine g_return_n ?_ | refine g_exit ?_ | refine g_skip ?_)
        exact g_meets ⟨i + 1, hi', fun j hj' => (Nat.lt_succ_iff_lt_or_eq.1 hj').elim (hj j) (fun e => by subst e; simp [Oat, hz, hc])⟩ (by show xs.length - (i + 1) < xs.length - i; omega) (Sat.mem ⟨rfl, rfl, rfl, rfl, rfl, trivial⟩)
      · skip
        refine o_move ?_
        first | (refine o_want rfl rfl rfl rfl rfl ?_; refine o_move ?_) | refine o_unwanted rfl rfl rfl rfl rfl ?_ | refine o_undef rfl rfl rfl ?_
        first | (refine o_want rfl rfl rfl rfl rfl ?_; refine o_move ?_) | refine o_unwanted rfl rfl rfl rfl rfl ?_ | refine o_undef rfl rfl rfl ?_
        first | (refine o_want rfl rfl rfl rfl rfl ?_; refine o_eql rfl rfl ?_) | refine o_unwanted rfl rfl rfl rfl rfl ?_ | refine o_undef rfl rfl rfl ?_
        first | refine o_pick_t rfl rfl ?_ | refine o_pick_f rfl rfl ?_
        first | refine g_endt ?_ | refine g_end ?_
        by_cases hq : lev ns i = most ns
        · refine g_cond_t rfl (by simpa using hq) ?_
          repeat (first | refine g_endt ?_ | refine g_end ?_ | refine g_then ?_ | refine g_in_normal ?_ | refine g_then_ret ?_ | refine g_in_ret ?_ | refine g_then_exit ?_ | refine g_in_exit rfl ?_ | refine g_in_exit_ne (by decide) ?_ | refine g_seq ?_ | refine g_region ?_ | refine g_block ?_ | refine g_ret ?_ | refine g_return_n ?_ | refine g_exit ?_ | refine g_skip ?_)
          refine o_assign ?_
          first | refine g_endt ?_ | refine g_end ?_
          repeat (first | refine g_endt ?_ | refine g_end ?_ | refine g_then ?_ | refine g_in_normal ?_ | refine g_then_ret ?_ | refine g_in_ret ?_ | refine g_then_exit ?_ | refine g_in_exit rfl ?_ | refine g_in_exit_ne (by decide) ?_ | refine g_seq ?_ | refine g_region ?_ | refine g_block ?_ | refine g_ret ?_ | refine g_return_n ?_ | refine g_exit ?_ | refine g_skip ?_)
          exact ret1 rfl (resT (v := .bool true) rfl) ⟨by rw [OD_true hi' (by simp [Oat, hz, hc, hq])], rfl⟩
        · refine g_cond_f rfl (by simpa using hq) ?_
          repeat (first | refine g_endt ?_ | refine g_end ?_ | refine g_then ?_ | refine g_in_normal ?_ | refine g_then_ret ?_ | refine g_in_ret ?_ | refine g_then_exit ?_ | refine g_in_exit rfl ?_ | refine g_in_exit_ne (by decide) ?_ | refine g_seq ?_ | refine g_region ?_ | refine g_block ?_ | refine g_ret ?_ | refine g_return_n ?_ | refine g_exit ?_ | refine g_skip ?_)
          refine o_add rfl rfl rfl (by omega) (by omega) ?_
          refine o_move ?_
          first | refine g_endt ?_ | refine g_end ?_
          repeat (first | refine g_endt ?_ | refine g_end ?_ | refine g_then ?_ | refine g_in_normal ?_ | refine g_then_ret ?_ | refine g_in_ret ?_ | refine g_then_exit ?_ | refine g_in_exit rfl ?_ | refine g_in_exit_ne (by decide) ?_ | refine g_seq ?_ | refine g_region ?_ | refine g_block ?_ | refine g_ret ?_ | refine g_return_n ?_ | refine g_exit ?_ | refine g_skip ?_)
          exact g_meets ⟨i + 1, hi', fun j hj' => (Nat.lt_succ_iff_lt_or_eq.1 hj').elim (hj j) (fun e => by subst e; simp [Oat, hz, hq])⟩ (by show xs.length - (i + 1) < xs.length - i; omega) (Sat.mem ⟨rfl, rfl, rfl, rfl, rfl, trivial⟩)
  · refine g_seq (g_cond_f rfl (by simpa using h) ?_)
    repeat (first | refine g_endt ?_ | refine g_end ?_ | refine g_then ?_ | refine g_in_normal ?_ | refine g_then_ret ?_ | refine g_in_ret ?_ | refine g_then_exit ?_ | refine g_in_exit rfl ?_ | refine g_in_exit_ne (by decide) ?_ | refine g_seq ?_ | refine g_region ?_ | refine g_block ?_ | refine g_ret ?_ | refine g_return_n ?_ | refine g_exit ?_ | refine g_skip ?_)
    refine o_assign ?_
    first | refine g_endt ?_ | refine g_end ?_
    repeat (first | refine g_endt ?_ | refine g_end ?_ | refine g_then ?_ | refine g_in_normal ?_ | refine g_then_ret ?_ | refine g_in_ret ?_ | refine g_then_exit ?_ | refine g_in_exit rfl ?_ | refine g_in_exit_ne (by decide) ?_ | refine g_seq ?_ | refine g_region ?_ | refine g_block ?_ | refine g_ret ?_ | refine g_return_n ?_ | refine g_exit ?_ | refine g_skip ?_)
    exact ret1 rfl (resT (v := .bool false) rfl) ⟨by rw [OD_false (fun j hj' => hj j (by omega))], rfl⟩
end Go.Proofs.Ythledhcealmkbaa
