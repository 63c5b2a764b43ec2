/- Parts of a proof, in order. -/
import Derived.Test.YtfhkhghjlhohdaaZR5

set_option linter.unusedSimpArgs false
set_option linter.unusedVariables false
/- A list copied. -/
namespace Go.Proofs.Ytfhkhghjlhohdaa
open Go Go.Sl
attribute [local irreducible] Code.wpIn roundPost bodyPostM runL Ret Meets Begin

theorem CopyE_spec (A : Option Addr) (len cap : Nat) (ys : List ElemD) (hl : ys.length = len) (hm : len ≤ 1000000) : Ctr Try.prog 15 [.slice A len cap] [psl encE 12 A ys]
    (fun v M => ∃ S c, v = .slice S len c ∧ M = [osl 35 encE 12 S c ys]) := by
  refine spec_of Try.func15 rfl Try.ntmps15 rfl fun w0 F => ?_
  repeat (first | refine g_endt ?_ | refine g_end ?_ | refine g_then ?_ | refine g_in_normal ?_ | refine g_then_ret ?_ | refine g_in_ret ?_ | refine g_then_exit ?_ | refine g_in_exit rfl ?_ | refine g_in_exit_ne (by decide) ?_ | refine g_seq ?_ | refine g_region ?_ | refine g_block ?_ | refine g_ret ?_ | refine g_return_n ?_ | refine g_exit ?_ | refine g_skip ?_)
  refine o_assign ?_
  first | refine g_endt ?_ | refine g_end ?_
  repeat (first | refine g_endt ?_ | refine g_end ?_ | refine g_then ?_ | refine g_in_normal ?_ | refine g_then_ret ?_ | refine g_in_ret ?_ | refine g_then_exit ?_ | refine g_in_exit rfl ?_ | refine g_in_exit_ne (by decide) ?_ | refine g_seq ?_ | refine g_region ?_ | refine g_block ?_ | refine g_ret ?_ | refine g_return_n ?_ | refine g_exit ?_ | refine g_skip ?_)
  refine o_move ?_
  refine G.nil_slice 35 encE 12 ?_
  refine o_append (xs := []) (ys := ys) rfl rfl rfl rfl hl (fun _ => .inr trivial) (by simp [maxLen]; omega) (by simp; omega) fun S c => ?_
  change G _ _ [osl 35 encE 12 S c ys, psl encE 12 A ys] _
  refine o_assign ?_
  first | refine g_endt ?_ | refine g_end ?_
  repeat (first | refine g_endt ?_ | refine g_end ?_ | refine g_then ?_ | refine g_in_normal ?_ | refine g_then_ret ?_ | refine g_in_ret ?_ | refine g_then_exit ?_ | refine g_in_exit rfl ?_ | refine g_in_exit_ne (by decide) ?_ | refine g_seq ?_ | refine g_region ?_ | refine g_block ?_ | refine g_ret ?_ | refine g_return_n ?_ | refine g_exit ?_ | refine g_skip ?_)
  exact ret1 rfl (resT (v := .slice S (0 + ys.length) c) rfl) ⟨S, c, by rw [Nat.zero_add, hl], rfl⟩
end Go.Proofs.Ytfhkhghjlhohdaa
/- A list copied. -/
namespace Go.Proofs.Ytfhkhghjlhohdaa
open Go Go.Sl
attribute [local irreducible] Code.wpIn roundPost bodyPostM runL Ret Meets Begin

theorem CopyS_spec (A : Option Addr) (len cap : Nat) (ys : List SymD) (hl : ys.length = len) (hm : len ≤ 1000000) : Ctr Try.prog 17 [.slice A len cap] [psl encS 3 A ys]
    (fun v M => ∃ S c, v = .slice S len c ∧ M = [osl 25 encS 3 S c ys]) := by
  refine spec_of Try.func17 rfl Try.ntmps17 rfl fun w0 F => ?_
  repeat (first | refine g_endt ?_ | refine g_end ?_ | refine g_then ?_ | refine g_in_normal ?_ | refine g_then_ret ?_ | refine g_in_ret ?_ | refine g_then_exit ?_ | refine g_in_exit rfl ?_ | refine g_in_exit_ne (by decide) ?_ | refine g_seq ?_ | refine g_region ?_ | refine g_block ?_ | refine g_ret ?_ | refine g_return_n ?_ | refine g_exit ?_ | refine g_skip ?_)
  refine o_assign ?_
  first | refine g_endt ?_ | refine g_end ?_
  repeat (first | refine g_endt ?_ | refine g_end ?_ | refine g_then ?_ | refine g_in_normal ?_ | refine g_then_ret ?_ | refine g_in_ret ?_ | refine g_then_exit ?_ | refine g_in_exit rfl ?_ | refine g_in_exit_ne (by decide) ?_ | refine g_seq ?_ | refine g_region ?_ | refine g_block ?_ | refine g_ret ?_ | refine g_return_n ?_ | refine g_exit ?_ | refine g_skip ?_)
  refine o_move ?_
  refine G.nil_slice 25 encS 3 ?_
  refine o_append (xs := []) (ys := ys) rfl rfl rfl rfl hl (fun _ => .inr trivial) (by simp [maxLen]; omega) (by simp; omega) fun S c => ?_
  change G _ _ [osl 25 encS 3 S c ys, psl encS 3 A ys] _
  refine o_assign ?_
  first | refine g_endt ?_ | refine g_end ?_
  repeat (first | refine g_endt ?_ | refine g_end ?_ | refine g_then ?_ | refine g_in_normal ?_ | refine g_then_ret ?_ | refine g_in_ret ?_ | refine g_then_exit ?_ | refine g_in_exit rfl ?_ | refine g_in_exit_ne (by decide) ?_ | refine g_seq ?_ | refine g_region ?_ | refine g_block ?_ | refine g_ret ?_ | refine g_return_n ?_ | refine g_exit ?_ | refine g_skip ?_)
  exact ret1 rfl (resT (v := .slice S (0 + ys.length) c) rfl) ⟨S, c, by rw [Nat.zero_add, hl], rfl⟩
end Go.Proofs.Ytfhkhghjlhohdaa
/- The smaller of two numbers. Plain library, no program in sight. -/
namespace Go.Sl
open Go Go.Proofs
section
variable {w0 : World} {A : SProp} {L : List SProp} {ro : Option Nat} {P : Program} {Q : Exit → Act → World → Prop} {all : Array Oper} {os : List Oper} {n : Nat} {ρ : Nat → Value} {ds : List Nat}
variable {d : Option Tmp} {ty : TypeId} {pos : String} {af : Array Edge} {x y : Operand}
theorem o_min {k : IntKind} {a b : Int} {tys : Array TypeId} (hx : ev n ρ x = .int k a) (hy : ev n ρ y = .int k b)
    (h : G w0 A L (fun w => runL ro P all Q os (act n (updo ρ d (.int k (min a b))) ds) w)) :
    G w0 A L (fun w => runL ro P all Q ({ dst := d, op := .call { callee := .builtin .min, args := #[x, y], argTypes := tys }, type := ty, pos := pos, after := af, guard := none } :: os) (act n ρ ds) w) :=
  o_val rfl (by intro c e; cases e) (fun w _ _ => by
    have e : (if b < a then b else a) = min a b := by omega
    simp only [execOp, resolve, List.map_toArray, List.map_cons, List.map_nil, hx, hy]
    simp [invoke, builtin, Builtin.min_, Builtin.min2, e]) h
end
end Go.Sl
/- The laws on levels, walked: more elements; one goal more; a step. -/
namespace Go.Proofs.Ytfhkhghjlhohdaa
open Go Go.Sl
attribute [local irreducible] Code.wpIn roundPost bodyPostM runL Ret Meets MeetsD Begin

theorem guard3a {n : Nat} {b c : Bool} (h : decide ((n : Int) > 10) = true) : true = !(decide (n ≤ 10) && b && c) := by
  rw [decide_eq_false (by have := of_decide_eq_true h; omega)]; rfl
theorem guard3b {n : Nat} {b c : Bool} (h8 : (!b) = true) : true = !(decide (n ≤ 10) && b && c) := by
  cases b with
  | true => cases h8
  | false => rw [Bool.and_false, Bool.false_and]; rfl
theorem guard3c {n : Nat} {b c : Bool} (h : decide ((n : Int) > 10) = false) (h8 : (!b) = false) : (!c) = !(decide (n ≤ 10) && b && c) := by
  rw [decide_eq_true (by have := of_decide_eq_false h; omega)]
  cases b with
  | true => rfl
  | false => cases h8
theorem guard2a {n : Nat} {b : Bool} (h : decide ((n : Int) > 10) = true) : true = !(decide (n ≤ 10) && b) := by
  rw [decide_eq_false (by have := of_decide_eq_true h; omega)]; rfl
theorem guard2b {n : Nat} {b : Bool} (h : decide ((n : Int) > 10) = false) : (!b) = !(decide (n ≤ 10) && b) := by
  rw [decide_eq_true (by have := of_decide_eq_false h; omega)]; rfl
set_option maxHeartbeats 2000000 in
theorem ReachMore_spec (A : Option Addr) (n c : Nat) (gs : List SymD) (hg : gs.length = n) (hn : n ≤ 9223372036854775807) (B : Option Addr) (m d : Nat) (xs : List ElemD) (hx : xs.length = m) (hm : m ≤ 9223372036854775807)
    (C : Option Addr) (k e : Nat) (zs : List ElemD) (hz : zs.length = k) (hk : k ≤ 9223372036854775807) (s : SymD) :
    Ctr Try.prog 4 [.slice A n c, .slice B m d, .slice C k e, s.val] [psl encS 3 A gs, psl encE 12 B xs, psl encE 12 C zs] (fun v M => v = .bool true ∧ M = []) := by
  subst hg hx hz
  refine spec_of Try.func4 rfl Try.ntmps4 rfl fun w0 F => ?_
  -- ponder/ponderlaw11.ReachMore
  repeat (first | refine g_endt ?_ | refine g_end ?_ | refine g_then ?_ | refine g_in_normal ?_ | refine g_then_ret ?_ | refine g_in_ret ?_ | refine g_then_exit ?_ | refine g_in_exit rfl ?_ | refine g_in_exit_ne (by decide) ?_ | refine g_seq ?_ | refine g_region ?_ | refine g_block ?_ | refine g_ret ?_ | refine g_return_n ?_ | refine g_exit ?_ | refine g_skip ?_)
  refine o_boxc s.val.cells rfl rfl fun q => ?_
  refine o_assign ?_
  first | refine g_endt ?_ | refine g_end ?_
  repeat (first | refine g_endt ?_ | refine g_end ?_ | refine g_then ?_ | refine g_in_normal ?_ | refine g_then_ret ?_ | refine g_in_ret ?_ | refine g_then_exit ?_ | refine g_in_exit rfl ?_ | refine g_in_exit_ne (by decide) ?_ | refine g_seq ?_ | refine g_block ?_ | refine g_ret ?_ | refine g_return_n ?_ | refine g_exit ?_ | refine g_skip ?_)
  refine g_cutk (σ := Unit) (ds' := []) (S := fun _ => [(0, .slice A gs.length c), (1, .slice B xs.length d), (2, .slice C zs.length e), (7, .pointer (some ⟨q, 0, none⟩)), (23, .bool (!(decide (gs.length ≤ 10) && lightE xs 40 && lightE zs 40)))]) (H := fun _ => [cellsB q s.val.cells 25, psl encS 3 A gs, psl encE 12 B xs, psl encE 12 C zs]) (ok := fun _ => True) ?_ ?_
  · skip
    repeat (first | refine g_endt ?_ | refine g_end ?_ | refine g_then ?_ | refine g_in_normal ?_ | refine g_then_ret ?_ | refine g_in_ret ?_ | refine g_then_exit ?_ | refine g_in_exit rfl ?_ | refine g_in_exit_ne (by decide) ?_ | refine g_seq ?_ | refine g_region ?_ | refine g_block ?_ | refine g_ret ?_ | refine g_return_n ?_ | refine g_exit ?_ | refine g_skip ?_)
    refine o_move ?_
    refine o_len rfl rfl ?_
    refine o_gtr rfl rfl ?_
    refine o_moveB rfl (fun h3 => ?_) (fun h3 => ?_)
    · refine o_unwanted rfl rfl rfl rfl rfl ?_
      refine o_unwanted rfl rfl rfl rfl rfl ?_
      refine o_unwanted rfl rfl rfl rfl rfl ?_
      refine o_pick_t rfl rfl ?_
      refine o_move ?_
      refine o_unwanted rfl rfl rfl rfl rfl ?_
      refine o_unwanted rfl rfl rfl rfl rfl ?_
      refine o_unwanted rfl rfl rfl rfl rfl ?_
      refine o_pick_t rfl rfl ?_
      first | refine g_endt ?_ | refine g_end ?_
      refine g_meets () trivial (Sat.mem ⟨rfl, rfl, rfl, rfl, congrArg Value.bool ?_, trivial⟩)
      first | exact guard3a h3 | exact guard3b h8 | exact guard3c h3 h8
    · refine o_want rfl rfl rfl rfl rfl <| o_move ?_
      refine o_want rfl rfl rfl rfl rfl <| o_callp (Light_spec B xs.length d 40 xs rfl hm (by omega)) rfl rfl ?_
      rintro _ _ ⟨rfl, rfl⟩
      refine o_want rfl rfl rfl rfl rfl <| o_not rfl ?_
      refine o_pick_f rfl rfl ?_
      refine o_moveB rfl (fun h8 => ?_) (fun h8 => ?_)
      · refine o_unwanted rfl rfl rfl rfl rfl ?_
        refine o_unwanted rfl rfl rfl rfl rfl ?_
        refine o_unwanted rfl rfl rfl rfl rfl ?_
        refine o_pick_t rfl rfl ?_
        first | refine g_endt ?_ | refine g_end ?_
        refine g_meets () trivial (Sat.mem ⟨rfl, rfl, rfl, rfl, congrArg Value.bool ?_, trivial⟩)
        first | exact guard3a h3 | exact guard3b h8 | exact guard3c h3 h8
      · refine o_want rfl rfl rfl rfl rfl <| o_move ?_
        refine o_want rfl rfl rfl rfl rfl <| o_callp (Light_spec C zs.length e 40 zs rfl hk (by omega)) rfl rfl ?_
        rintro _ _ ⟨rfl, rfl⟩
        refine o_want rfl rfl rfl rfl rfl <| o_not rfl ?_
        refine o_pick_f rfl rfl ?_
        first | refine g_endt ?_ | refine g_end ?_
        refine g_meets () trivial (Sat.mem ⟨rfl, rfl, rfl, rfl, congrArg Value.bool ?_, trivial⟩)
        first | exact guard3a h3 | exact guard3b h8 | exact guard3c h3 h8
  intro _ ρ2 _
  cases hl : (decide (gs.length ≤ 10) && lightE xs 40 && lightE zs 40) with
  | false =>
    first | refine g_seq (g_cond_t rfl (by first | rfl | (simp; done) | (simp; omega) | (simp; assumption)) ?_) | refine g_cond_t rfl (by first | rfl | (simp; done) | (simp; omega) | (simp; assumption)) ?_
    repeat (first | refine g_endt ?_ | refine g_end ?_ | refine g_then ?_ | refine g_in_normal ?_ | refine g_then_ret ?_ | refine g_in_ret ?_ | refine g_then_exit ?_ | refine g_in_exit rfl ?_ | refine g_in_exit_ne (by decide) ?_ | refine g_seq ?_ | refine g_region ?_ | refine g_block ?_ | refine g_ret ?_ | refine g_return_n ?_ | refine g_exit ?_ | refine g_skip ?_)
    refine o_call (wakes11_spec) rfl rfl ?_
    rintro _ _ ⟨rfl, rfl⟩
    refine o_assign ?_
    first | refine g_endt ?_ | refine g_end ?_
    repeat (first | refine g_endt ?_ | refine g_end ?_ | refine g_then ?_ | refine g_in_normal ?_ | refine g_then_ret ?_ | refine g_in_ret ?_ | refine g_then_exit ?_ | refine g_in_exit rfl ?_ | refine g_in_exit_ne (by decide) ?_ | refine g_seq ?_ | refine g_region ?_ | refine g_block ?_ | refine g_ret ?_ | refine g_return_n ?_ | refine g_exit ?_ | refine g_skip ?_)
    exact ret1 (K := []) rfl (resT rfl) ⟨rfl, rfl⟩
  | true =>
    simp only [lightE, Bool.and_eq_true, decide_eq_true_eq] at hl
    obtain ⟨⟨hg10, hx40, -⟩, hz40, -⟩ := hl
    have hmono : ∀ v, levT gs (xs ++ zs) v ≤ levT gs xs v := fun v => levT_mono v hg10 fun e he => List.mem_append_left _ he
    first | refine g_seq (g_cond_f rfl (by first | rfl | (simp; done) | (simp; omega) | (simp; assumption)) ?_) | refine g_cond_f rfl (by first | rfl | (simp; done) | (simp; omega) | (simp; assumption)) ?_
    repeat (first | refine g_endt ?_ | refine g_end ?_ | refine g_then ?_ | refine g_in_normal ?_ | refine g_then_ret ?_ | refine g_in_ret ?_ | refine g_then_exit ?_ | refine g_in_exit rfl ?_ | refine g_in_exit_ne (by decide) ?_ | refine g_seq ?_ | refine g_region ?_ | refine g_block ?_ | refine g_ret ?_ | refine g_return_n ?_ | refine g_exit ?_ | refine g_skip ?_)
    refine o_move ?_
    refine o_callp (CopyE_spec B xs.length d xs rfl (by omega)) rfl rfl ?_
    rintro _ _ ⟨S1, c1, rfl, rfl⟩
    refine o_move ?_
    refine o_append (xs := xs) (ys := zs) rfl rfl rfl rfl rfl (fun _ => .inr trivial) (by simp [maxLen]; omega) (by omega) fun S2 e2 => ?_
    refine o_assign ?_
    first | refine g_endt ?_ | refine g_end ?_
    refine G.bring [osl 35 encE 12 S2 e2 (xs ++ zs)] ?_
    refine G.frz ?_
    have hall : (xs ++ zs).length = xs.length + zs.length := List.length_append
    generalize xs ++ zs = al at hall hmono ⊢
    repeat (first | refine g_endt ?_ | refine g_end ?_ | refine g_then ?_ | refine g_in_normal ?_ | refine g_then_ret ?_ | refine g_in_ret ?_ | refine g_then_exit ?_ | refine g_in_exit rfl ?_ | refine g_in_exit_ne (by decide) ?_ | refine g_seq ?_ | refine g_region ?_ | refine g_block ?_ | refine g_ret ?_ | refine g_return_n ?_ | refine g_exit ?_ | refine g_skip ?_)
    refine o_assign ?_
    first | refine g_endt ?_ | refine g_end ?_
    repeat (first | refine g_endt ?_ | refine g_end ?_ | refine g_then ?_ | refine g_in_normal ?_ | refine g_then_ret ?_ | refine g_in_ret ?_ | refine g_then_exit ?_ | refine g_in_exit rfl ?_ | refine g_in_exit_ne (by decide) ?_ | refine g_seq ?_ | refine g_region ?_ | refine g_block ?_ | refine g_ret ?_ | refine g_return_n ?_ | refine g_exit ?_ | refine g_skip ?_)
    refine g_loop (σ := {i : Nat // i ≤ xs.length}) (S := fun i => [(0, .slice A gs.length c), (1, .slice B xs.length d), (7, .pointer (some ⟨q, 0, none⟩)), (9, .slice S2 (xs.length + zs.length) e2), (10, .int .i64 (i.1 : Int))]) (H := fun _ => [cellsB q s.val.cells 25, psl encS 3 A gs, psl encE 12 B xs, psl encE 12 S2 al]) (μ := fun i => xs.length - i.1)
      (s0 := ⟨0, Nat.zero_le _⟩) (Sat.mem ⟨rfl, rfl, rfl, rfl, rfl, trivial⟩) ?_
    rintro ⟨i, hi⟩ ρ'
    dsimp only at hi ⊢
    repeat (first | refine g_endt ?_ | refine g_end ?_ | refine g_then ?_ | refine g_in_normal ?_ | refine g_then_ret ?_ | refine g_in_ret ?_ | refine g_then_exit ?_ | refine g_in_exit rfl ?_ | refine g_in_exit_ne (by decide) ?_ | refine g_seq ?_ | refine g_region ?_ | refine g_block ?_ | refine g_ret ?_ | refine g_return_n ?_ | refine g_exit ?_ | refine g_skip ?_)
    refine o_move ?_
    refine o_move ?_
    refine o_len rfl rfl ?_
    refine o_lss rfl rfl ?_
    first | refine g_endt ?_ | refine g_end ?_
    by_cases hio : i < xs.length
    · first | refine g_seq (g_cond_t rfl (by first | rfl | (simp; done) | (simp; omega) | (simp; assumption)) ?_) | refine g_cond_t rfl (by first | rfl | (simp; done) | (simp; omega) | (simp; assumption)) ?_
      have hpos : 0 < xs.length := by omega
      obtain ⟨x, hxi⟩ : ∃ x, xs[i]? = some x := ⟨_, List.getElem?_eq_getElem hio⟩
      have m1 : decide (levT gs al x.value > levT gs xs x.value) = false := decide_eq_false (by have := hmono x.value; omega)
      have m2 : decide (levT gs al x.id > levT gs xs x.id) = false := decide_eq_false (by have := hmono x.id; omega)
      repeat (first | refine g_endt ?_ | refine g_end ?_ | refine g_then ?_ | refine g_in_normal ?_ | refine g_then_ret ?_ | refine g_in_ret ?_ | refine g_then_exit ?_ | refine g_in_exit rfl ?_ | refine g_in_exit_ne (by decide) ?_ | refine g_seq ?_ | refine g_region ?_ | refine g_block ?_ | refine g_ret ?_ | refine g_return_n ?_ | refine g_exit ?_ | refine g_skip ?_)
      refine g_draw [7,15,25,33] [0,1,2,3,4,5,6,8,9,10,11,12,13,14,7,15,16,17,18,19,20,21,22,23,24,26,27,28,29,30,31,32,25,33,34,35] [cellsB q s.val.cells 25, psl encS 3 A gs, psl encE 12 B xs, psl encE 12 S2 al] mixed (by kernel_rfl) ?_
      refine ob_q rfl rfl ⟨_, fun X Q h => o_move (g_end (h _ _ ⟨rfl, rfl⟩)), ?_⟩
      refine ob_q rfl rfl ⟨_, fun X Q h => o_move (g_end (h _ _ ⟨rfl, rfl⟩)), ?_⟩
      refine ob_q rfl rfl ⟨_, fun X Q h => o_move (g_end (h _ _ ⟨rfl, rfl⟩)), ?_⟩
      refine ob_q rfl rfl ⟨_, fun X Q h => o_move (g_end (h _ _ ⟨rfl, rfl⟩)), ?_⟩
      refine ob_q rfl rfl ⟨_, fun X Q h => o_indexR (ys := xs) (i := i) rfl rfl rfl hio rfl rfl (g_end (h _ _ ⟨rfl, rfl⟩)), ?_⟩
      refine ob_q rfl rfl ⟨_, fun X Q h => o_fieldR (ys := xs) rfl hpos (g_end (h _ _ ⟨rfl, rfl⟩)), ?_⟩
      refine ob_q rfl rfl ⟨_, fun X Q h => o_loadEN (off := 6) (ys := xs) (v := x.value.val) rfl hxi rfl rfl (g_end (h _ _ ⟨rfl, rfl⟩)), ?_⟩
      refine ob_q rfl rfl ⟨_, fun X Q h => o_move (g_end (h _ _ ⟨rfl, rfl⟩)), ?_⟩
      refine ob_q rfl rfl ⟨_, fun X Q h => o_move (g_end (h _ _ ⟨rfl, rfl⟩)), ?_⟩
      refine ob_q rfl rfl ⟨_, fun X Q h => o_move (g_end (h _ _ ⟨rfl, rfl⟩)), ?_⟩
      refine ob_q rfl rfl ⟨_, fun X Q h => o_move (g_end (h _ _ ⟨rfl, rfl⟩)), ?_⟩
      refine ob_q rfl rfl ⟨_, fun X Q h => o_indexR (ys := xs) (i := i) rfl rfl rfl hio rfl rfl (g_end (h _ _ ⟨rfl, rfl⟩)), ?_⟩
      refine ob_q rfl rfl ⟨_, fun X Q h => o_fieldR (ys := xs) rfl hpos (g_end (h _ _ ⟨rfl, rfl⟩)), ?_⟩
      refine ob_q rfl rfl ⟨_, fun X Q h => o_loadEN (off := 6) (ys := xs) (v := x.value.val) rfl hxi rfl rfl (g_end (h _ _ ⟨rfl, rfl⟩)), ?_⟩
      refine ob_l rfl rfl fun Qz hz => o_callp (level_spec A gs.length c gs rfl (by omega) S2 (xs.length + zs.length) e2 al hall (by omega) x.value) rfl rfl ?_
      rintro _ _ ⟨rfl, rfl⟩
      refine g_end (hz _ _ ⟨_, ob_fin, ?_⟩)
      clear hz Qz
      refine ob_l rfl rfl fun Qz hz => o_callp (level_spec A gs.length c gs rfl (by omega) B xs.length d xs rfl (by omega) x.value) rfl rfl ?_
      rintro _ _ ⟨rfl, rfl⟩
      refine g_end (hz _ _ ⟨_, ob_fin, ?_⟩)
      clear hz Qz
      refine ob_q rfl rfl ⟨_, fun X Q h => o_gtr rfl rfl (g_end (h _ _ ⟨rfl, rfl⟩)), ?_⟩
      rw [m1]
      refine ob_q rfl rfl ⟨_, fun X Q h => o_move (g_end (h _ _ ⟨rfl, rfl⟩)), ?_⟩
      first | refine ob_q rfl rfl ⟨_, fun X Q h => o_want rfl rfl rfl rfl rfl <| o_move (g_end (h _ _ ⟨rfl, rfl⟩)), ?_⟩ | refine ob_q rfl rfl ⟨_, fun X Q h => o_unwanted rfl rfl rfl rfl rfl (g_end (h _ _ ⟨rfl, rfl⟩)), ?_⟩ | refine ob_q rfl rfl ⟨_, fun X Q h => o_undef rfl rfl rfl (g_end (h _ _ ⟨rfl, rfl⟩)), ?_⟩
      first | refine ob_q rfl rfl ⟨_, fun X Q h => o_want rfl rfl rfl rfl rfl <| o_move (g_end (h _ _ ⟨rfl, rfl⟩)), ?_⟩ | refine ob_q rfl rfl ⟨_, fun X Q h => o_unwanted rfl rfl rfl rfl rfl (g_end (h _ _ ⟨rfl, rfl⟩)), ?_⟩ | refine ob_q rfl rfl ⟨_, fun X Q h => o_undef rfl rfl rfl (g_end (h _ _ ⟨rfl, rfl⟩)), ?_⟩
      first | refine ob_q rfl rfl ⟨_, fun X Q h => o_want rfl rfl rfl rfl rfl <| o_move (g_end (h _ _ ⟨rfl, rfl⟩)), ?_⟩ | refine ob_q rfl rfl ⟨_, fun X Q h => o_unwanted rfl rfl rfl rfl rfl (g_end (h _ _ ⟨rfl, rfl⟩)), ?_⟩ | refine ob_q rfl rfl ⟨_, fun X Q h => o_undef rfl rfl rfl (g_end (h _ _ ⟨rfl, rfl⟩)), ?_⟩
      first | refine ob_q rfl rfl ⟨_, fun X Q h => o_want rfl rfl rfl rfl rfl <| o_move (g_end (h _ _ ⟨rfl, rfl⟩)), ?_⟩ | refine ob_q rfl rfl ⟨_, fun X Q h => o_unwanted rfl rfl rfl rfl rfl (g_end (h _ _ ⟨rfl, rfl⟩)), ?_⟩ | refine ob_q rfl rfl ⟨_, fun X Q h => o_undef rfl rfl rfl (g_end (h _ _ ⟨rfl, rfl⟩)), ?_⟩
      refine ob_q rfl rfl ⟨_, fun X Q h => o_want rfl rfl rfl rfl rfl <| o_indexR (ys := xs) (i := i) rfl rfl rfl hio rfl rfl (g_end (h _ _ ⟨rfl, rfl⟩)), ?_⟩
      refine ob_q rfl rfl ⟨_, fun X Q h => o_want rfl rfl rfl rfl rfl <| o_fieldR (ys := xs) rfl hpos (g_end (h _ _ ⟨rfl, rfl⟩)), ?_⟩
      refine ob_q rfl rfl ⟨_, fun X Q h => o_want rfl rfl rfl rfl rfl <| o_loadEN (off := 0) (ys := xs) (v := x.id.val) rfl hxi rfl rfl (g_end (h _ _ ⟨rfl, rfl⟩)), ?_⟩
      first | refine ob_q rfl rfl ⟨_, fun X Q h => o_want rfl rfl rfl rfl rfl <| o_move (g_end (h _ _ ⟨rfl, rfl⟩)), ?_⟩ | refine ob_q rfl rfl ⟨_, fun X Q h => o_unwanted rfl rfl rfl rfl rfl (g_end (h _ _ ⟨rfl, rfl⟩)), ?_⟩ | refine ob_q rfl rfl ⟨_, fun X Q h => o_undef rfl rfl rfl (g_end (h _ _ ⟨rfl, rfl⟩)), ?_⟩
      first | refine ob_q rfl rfl ⟨_, fun X Q h => o_want rfl rfl rfl rfl rfl <| o_move (g_end (h _ _ ⟨rfl, rfl⟩)), ?_⟩ | refine ob_q rfl rfl ⟨_, fun X Q h => o_unwanted rfl rfl rfl rfl rfl (g_end (h _ _ ⟨rfl, rfl⟩)), ?_⟩ | refine ob_q rfl rfl ⟨_, fun X Q h => o_undef rfl rfl rfl (g_end (h _ _ ⟨rfl, rfl⟩)), ?_⟩
      first | refine ob_q rfl rfl ⟨_, fun X Q h => o_want rfl rfl rfl rfl rfl <| o_move (g_end (h _ _ ⟨rfl, rfl⟩)), ?_⟩ | refine ob_q rfl rfl ⟨_, fun X Q h => o_unwanted rfl rfl rfl rfl rfl (g_end (h _ _ ⟨rfl, rfl⟩)), ?_⟩ | refine ob_q rfl rfl ⟨_, fun X Q h => o_undef rfl rfl rfl (g_end (h _ _ ⟨rfl, rfl⟩)), ?_⟩
      first | refine ob_q rfl rfl ⟨_, fun X Q h => o_want rfl rfl rfl rfl rfl <| o_move (g_end (h _ _ ⟨rfl, rfl⟩)), ?_⟩ | refine ob_q rfl rfl ⟨_, fun X Q h => o_unwanted rfl rfl rfl rfl rfl (g_end (h _ _ ⟨rfl, rfl⟩)), ?_⟩ | refine ob_q rfl rfl ⟨_, fun X Q h => o_undef rfl rfl rfl (g_end (h _ _ ⟨rfl, rfl⟩)), ?_⟩
      refine ob_q rfl rfl ⟨_, fun X Q h => o_want rfl rfl rfl rfl rfl <| o_indexR (ys := xs) (i := i) rfl rfl rfl hio rfl rfl (g_end (h _ _ ⟨rfl, rfl⟩)), ?_⟩
      refine ob_q rfl rfl ⟨_, fun X Q h => o_want rfl rfl rfl rfl rfl <| o_fieldR (ys := xs) rfl hpos (g_end (h _ _ ⟨rfl, rfl⟩)), ?_⟩
      refine ob_q rfl rfl ⟨_, fun X Q h => o_want rfl rfl rfl rfl rfl <| o_loadEN (off := 0) (ys := xs) (v := x.id.val) rfl hxi rfl rfl (g_end (h _ _ ⟨rfl, rfl⟩)), ?_⟩
      refine ob_l rfl rfl fun Qz hz => o_want rfl rfl rfl rfl rfl <| o_callp (level_spec A gs.length c gs rfl (by omega) S2 (xs.length + zs.length) e2 al hall (by omega) x.id) rfl rfl ?_
      rintro _ _ ⟨rfl, rfl⟩
      refine g_end (hz _ _ ⟨_, ob_fin, ?_⟩)
      clear hz Qz
      refine ob_l rfl rfl fun Qz hz => o_want rfl rfl rfl rfl rfl <| o_callp (level_spec A gs.length c gs rfl (by omega) B xs.length d xs rfl (by omega) x.id) rfl rfl ?_
      rintro _ _ ⟨rfl, rfl⟩
      refine g_end (hz _ _ ⟨_, ob_fin, ?_⟩)
      clear hz Qz
      first | refine ob_q rfl rfl ⟨_, fun X Q h => o_want rfl rfl rfl rfl rfl <| o_gtr rfl rfl (g_end (h _ _ ⟨rfl, rfl⟩)), ?_⟩ | refine ob_q rfl rfl ⟨_, fun X Q h => o_unwanted rfl rfl rfl rfl rfl (g_end (h _ _ ⟨rfl, rfl⟩)), ?_⟩ | refine ob_q rfl rfl ⟨_, fun X Q h => o_undef rfl rfl rfl (g_end (h _ _ ⟨rfl, rfl⟩)), ?_⟩
      first | refine ob_q rfl rfl ⟨_, fun X Q h => o_pick_t rfl rfl (g_end (h _ _ ⟨rfl, rfl⟩)), ?_⟩ | refine ob_q rfl rfl ⟨_, fun X Q h => o_pick_f rfl rfl (g_end (h _ _ ⟨rfl, rfl⟩)), ?_⟩
      refine ob_nil ?_
      first | refine g_seq (g_cond_f rfl (by exact m2) ?_) | refine g_cond_f rfl (by exact m2) ?_
      repeat (first | refine g_endt ?_ | refine g_end ?_ | refine g_then ?_ | refine g_in_normal ?_ | refine g_then_ret ?_ | refine g_in_ret ?_ | refine g_then_exit ?_ | refine g_in_exit rfl ?_ | refine g_in_exit_ne (by decide) ?_ | refine g_seq ?_ | refine g_region ?_ | refine g_block ?_ | refine g_ret ?_ | refine g_return_n ?_ | refine g_exit ?_ | refine g_skip ?_)
      refine o_move ?_
      refine o_add (c := ((i + 1 : Nat) : Int)) rfl rfl (by omega) (by omega) (by omega) ?_
      refine o_assign ?_
      first | refine g_endt ?_ | refine g_end ?_
      repeat (first | refine g_endt ?_ | refine g_end ?_ | refine g_then ?_ | refine g_in_normal ?_ | refine g_then_ret ?_ | refine g_in_ret ?_ | refine g_then_exit ?_ | refine g_in_exit rfl ?_ | refine g_in_exit_ne (by decide) ?_ | refine g_seq ?_ | refine g_region ?_ | refine g_block ?_ | refine g_ret ?_ | refine g_return_n ?_ | refine g_exit ?_ | refine g_skip ?_)
      exact g_meets (⟨i + 1, hio⟩) (by first | exact trivial | (dsimp only; omega)) (Sat.mem (by repeat (first | exact trivial | refine And.intro rfl ?_)))
    · first | refine g_seq (g_cond_f rfl (by simp; omega) ?_) | refine g_cond_f rfl (by simp; omega) ?_
      have m3 : decide (levT gs al s ≤ levT gs xs s) = true := decide_eq_true (hmono s)
      repeat (first | refine g_endt ?_ | refine g_end ?_ | refine g_then ?_ | refine g_in_normal ?_ | refine g_then_ret ?_ | refine g_in_ret ?_ | refine g_then_exit ?_ | refine g_in_exit rfl ?_ | refine g_in_exit_ne (by decide) ?_ | refine g_seq ?_ | refine g_region ?_ | refine g_block ?_ | refine g_ret ?_ | refine g_return_n ?_ | refine g_exit ?_ | refine g_skip ?_)
      refine g_draw [3,7,10] [0,1,2,4,5,6,3,7,8,9,10,11,12] [cellsB q s.val.cells 25, psl encS 3 A gs, psl encE 12 B xs, psl encE 12 S2 al] mixed rfl ?_
      refine ob_q rfl rfl ⟨_, fun X Q h => o_move (g_end (h _ _ ⟨rfl, rfl⟩)), ?_⟩
      refine ob_q rfl rfl ⟨_, fun X Q h => o_move (g_end (h _ _ ⟨rfl, rfl⟩)), ?_⟩
      refine ob_q rfl rfl ⟨_, fun X Q h => o_loadN (v := s.val) rfl rfl rfl (g_end (h _ _ ⟨rfl, rfl⟩)), ?_⟩
      refine ob_q rfl rfl ⟨_, fun X Q h => o_move (g_end (h _ _ ⟨rfl, rfl⟩)), ?_⟩
      refine ob_q rfl rfl ⟨_, fun X Q h => o_move (g_end (h _ _ ⟨rfl, rfl⟩)), ?_⟩
      refine ob_q rfl rfl ⟨_, fun X Q h => o_loadN (v := s.val) rfl rfl rfl (g_end (h _ _ ⟨rfl, rfl⟩)), ?_⟩
      refine ob_l rfl rfl fun Qz hz => o_callp (level_spec A gs.length c gs rfl (by omega) S2 (xs.length + zs.length) e2 al hall (by omega) s) rfl rfl ?_
      rintro _ _ ⟨rfl, rfl⟩
      refine g_end (hz _ _ ⟨_, ob_fin, ?_⟩)
      clear hz Qz
      refine ob_l rfl rfl fun Qz hz => o_callp (level_spec A gs.length c gs rfl (by omega) B xs.length d xs rfl (by omega) s) rfl rfl ?_
      rintro _ _ ⟨rfl, rfl⟩
      refine g_end (hz _ _ ⟨_, ob_fin, ?_⟩)
      clear hz Qz
      refine ob_q rfl rfl ⟨_, fun X Q h => o_leq rfl rfl (g_end (h _ _ ⟨rfl, rfl⟩)), ?_⟩
      rw [m3]
      refine ob_q rfl rfl ⟨_, fun X Q h => o_move (g_end (h _ _ ⟨rfl, rfl⟩)), ?_⟩
      refine ob_l rfl rfl fun Qz hz => o_want rfl rfl rfl rfl rfl <| o_call (wakes11_spec) rfl rfl ?_
      rintro _ _ ⟨rfl, rfl⟩
      refine g_end (hz _ _ ⟨_, ob_fin, ?_⟩)
      clear hz Qz
      first | refine ob_q rfl rfl ⟨_, fun X Q h => o_pick_t rfl rfl (g_end (h _ _ ⟨rfl, rfl⟩)), ?_⟩ | refine ob_q rfl rfl ⟨_, fun X Q h => o_pick_f rfl rfl (g_end (h _ _ ⟨rfl, rfl⟩)), ?_⟩
      refine ob_q rfl rfl ⟨_, fun X Q h => o_assign (g_end (h _ _ ⟨rfl, rfl⟩)), ?_⟩
      refine ob_nil ?_
      repeat (first | refine g_endt ?_ | refine g_end ?_ | refine g_then ?_ | refine g_in_normal ?_ | refine g_then_ret ?_ | refine g_in_ret ?_ | refine g_then_exit ?_ | refine g_in_exit rfl ?_ | refine g_in_exit_ne (by decide) ?_ | refine g_seq ?_ | refine g_region ?_ | refine g_block ?_ | refine g_ret ?_ | refine g_return_n ?_ | refine g_exit ?_ | refine g_skip ?_)
      exact ret1 (K := []) rfl (resT (v := .bool true) rfl) ⟨rfl, rfl⟩

theorem leastF_take {gs : List SymD} {l : List ElemD} {v : SymD} {i : Nat} {e : ElemD} (he : l[i]? = some e) : leastF gs l v 1000 (l.take (i + 1)) = if e.value.beq v then min (leastF gs l v 1000 (l.take i)) (levT gs l e.id) else leastF gs l v 1000 (l.take i) := by
  rw [List.take_add_one, he]
  exact leastF_snoc gs l v e (l.take i) 1000
set_option maxHeartbeats 2000000 in
theorem ReachSteps_spec (A : Option Addr) (n c : Nat) (gs : List SymD) (hg : gs.length = n) (hn : n ≤ 9223372036854775807) (B : Option Addr) (m d : Nat) (xs : List ElemD) (hx : xs.length = m) (hm : m ≤ 9223372036854775807) :
    Ctr Try.prog 6 [.slice A n c, .slice B m d] [psl encS 3 A gs, psl encE 12 B xs] (fun v M => v = .bool true ∧ M = []) := by
  subst hg hx
  refine spec_of Try.func6 rfl Try.ntmps6 rfl fun w0 F => ?_
  -- ponder/ponderlaw11.ReachSteps
  repeat (first | refine g_endt ?_ | refine g_end ?_ | refine g_then ?_ | refine g_in_normal ?_ | refine g_then_ret ?_ | refine g_in_ret ?_ | refine g_then_exit ?_ | refine g_in_exit rfl ?_ | refine g_in_exit_ne (by decide) ?_ | refine g_seq ?_ | refine g_region ?_ | refine g_block ?_ | refine g_ret ?_ | refine g_return_n ?_ | refine g_exit ?_ | refine g_skip ?_)
  refine o_assign ?_
  first | refine g_endt ?_ | refine g_end ?_
  repeat (first | refine g_endt ?_ | refine g_end ?_ | refine g_then ?_ | refine g_in_normal ?_ | refine g_then_ret ?_ | refine g_in_ret ?_ | refine g_then_exit ?_ | refine g_in_exit rfl ?_ | refine g_in_exit_ne (by decide) ?_ | refine g_seq ?_ | refine g_block ?_ | refine g_ret ?_ | refine g_return_n ?_ | refine g_exit ?_ | refine g_skip ?_)
  refine g_cutk (σ := Unit) (ds' := []) (S := fun _ => [(0, .slice A gs.length c), (1, .slice B xs.length d), (16, .bool (!(decide (gs.length ≤ 10) && lightE xs 40)))]) (H := fun _ => [psl encS 3 A gs, psl encE 12 B xs]) (ok := fun _ => True) ?_ ?_
  · skip
    repeat (first | refine g_endt ?_ | refine g_end ?_ | refine g_then ?_ | refine g_in_normal ?_ | refine g_then_ret ?_ | refine g_in_ret ?_ | refine g_then_exit ?_ | refine g_in_exit rfl ?_ | refine g_in_exit_ne (by decide) ?_ | refine g_seq ?_ | refine g_region ?_ | refine g_block ?_ | refine g_ret ?_ | refine g_return_n ?_ | refine g_exit ?_ | refine g_skip ?_)
    refine o_move ?_
    refine o_len rfl rfl ?_
    refine o_gtr rfl rfl ?_
    refine o_moveB rfl (fun h3 => ?_) (fun h3 => ?_)
    · refine o_unwanted rfl rfl rfl rfl rfl ?_
      refine o_unwanted rfl rfl rfl rfl rfl ?_
      refine o_unwanted rfl rfl rfl rfl rfl ?_
      refine o_pick_t rfl rfl ?_
      first | refine g_endt ?_ | refine g_end ?_
      refine g_meets () trivial (Sat.mem ⟨rfl, rfl, congrArg Value.bool ?_, trivial⟩)
      first | exact guard2a h3 | exact guard2b h3
    · refine o_want rfl rfl rfl rfl rfl <| o_move ?_
      refine o_want rfl rfl rfl rfl rfl <| o_callp (Light_spec B xs.length d 40 xs rfl hm (by omega)) rfl rfl ?_
      rintro _ _ ⟨rfl, rfl⟩
      refine o_want rfl rfl rfl rfl rfl <| o_not rfl ?_
      refine o_pick_f rfl rfl ?_
      first | refine g_endt ?_ | refine g_end ?_
      refine g_meets () trivial (Sat.mem ⟨rfl, rfl, congrArg Value.bool ?_, trivial⟩)
      first | exact guard2a h3 | exact guard2b h3
  intro _ ρ2 _
  cases hl : (decide (gs.length ≤ 10) && lightE xs 40) with
  | false =>
    first | refine g_seq (g_cond_t rfl (by first | rfl | (simp; done) | (simp; omega) | (simp; assumption)) ?_) | refine g_cond_t rfl (by first | rfl | (simp; done) | (simp; omega) | (simp; assumption)) ?_
    repeat (first | refine g_endt ?_ | refine g_end ?_ | refine g_then ?_ | refine g_in_normal ?_ | refine g_then_ret ?_ | refine g_in_ret ?_ | refine g_then_exit ?_ | refine g_in_exit rfl ?_ | refine g_in_exit_ne (by decide) ?_ | refine g_seq ?_ | refine g_region ?_ | refine g_block ?_ | refine g_ret ?_ | refine g_return_n ?_ | refine g_exit ?_ | refine g_skip ?_)
    refine o_call (wakes11_spec) rfl rfl ?_
    rintro _ _ ⟨rfl, rfl⟩
    refine o_assign ?_
    first | refine g_endt ?_ | refine g_end ?_
    repeat (first | refine g_endt ?_ | refine g_end ?_ | refine g_then ?_ | refine g_in_normal ?_ | refine g_then_ret ?_ | refine g_in_ret ?_ | refine g_then_exit ?_ | refine g_in_exit rfl ?_ | refine g_in_exit_ne (by decide) ?_ | refine g_seq ?_ | refine g_region ?_ | refine g_block ?_ | refine g_ret ?_ | refine g_return_n ?_ | refine g_exit ?_ | refine g_skip ?_)
    exact ret1 (K := []) rfl (resT rfl) ⟨rfl, rfl⟩
  | true =>
    simp only [lightE, Bool.and_eq_true, decide_eq_true_eq] at hl
    obtain ⟨hg10, hx40, -⟩ := hl
    first | refine g_seq (g_cond_f rfl (by first | rfl | (simp; done) | (simp; omega) | (simp; assumption)) ?_) | refine g_cond_f rfl (by first | rfl | (simp; done) | (simp; omega) | (simp; assumption)) ?_
    repeat (first | refine g_endt ?_ | refine g_end ?_ | refine g_then ?_ | refine g_in_normal ?_ | refine g_then_ret ?_ | refine g_in_ret ?_ | refine g_then_exit ?_ | refine g_in_exit rfl ?_ | refine g_in_exit_ne (by decide) ?_ | refine g_seq ?_ | refine g_region ?_ | refine g_block ?_ | refine g_ret ?_ | refine g_return_n ?_ | refine g_exit ?_ | refine g_skip ?_)
    refine o_assign ?_
    first | refine g_endt ?_ | refine g_end ?_
    repeat (first | refine g_endt ?_ | refine g_end ?_ | refine g_then ?_ | refine g_in_normal ?_ | refine g_then_ret ?_ | refine g_in_ret ?_ | refine g_then_exit ?_ | refine g_in_exit rfl ?_ | refine g_in_exit_ne (by decide) ?_ | refine g_seq ?_ | refine g_region ?_ | refine g_block ?_ | refine g_ret ?_ | refine g_return_n ?_ | refine g_exit ?_ | refine g_skip ?_)
    refine g_loop (σ := {i : Nat // i ≤ xs.length}) (S := fun i => [(0, .slice A gs.length c), (1, .slice B xs.length d), (5, .int .i64 (i.1 : Int))]) (H := fun _ => [psl encS 3 A gs, psl encE 12 B xs]) (μ := fun i => xs.length - i.1)
      (s0 := ⟨0, Nat.zero_le _⟩) (Sat.mem ⟨rfl, rfl, rfl, trivial⟩) ?_
    rintro ⟨i, hi⟩ ρ'
    dsimp only at hi ⊢
    repeat (first | refine g_endt ?_ | refine g_end ?_ | refine g_then ?_ | refine g_in_normal ?_ | refine g_then_ret ?_ | refine g_in_ret ?_ | refine g_then_exit ?_ | refine g_in_exit rfl ?_ | refine g_in_exit_ne (by decide) ?_ | refine g_seq ?_ | refine g_region ?_ | refine g_block ?_ | refine g_ret ?_ | refine g_return_n ?_ | refine g_exit ?_ | refine g_skip ?_)
    refine o_move ?_
    refine o_move ?_
    refine o_len rfl rfl ?_
    refine o_lss rfl rfl ?_
    first | refine g_endt ?_ | refine g_end ?_
    by_cases hio : i < xs.length
    · first | refine g_seq (g_cond_t rfl (by first | rfl | (simp; done) | (simp; omega) | (simp; assumption)) ?_) | refine g_cond_t rfl (by first | rfl | (simp; done) | (simp; omega) | (simp; assumption)) ?_
      have hpos : 0 < xs.length := by omega
      obtain ⟨x, hxi⟩ : ∃ x, xs[i]? = some x := ⟨_, List.getElem?_eq_getElem hio⟩
      repeat (first | refine g_endt ?_ | refine g_end ?_ | refine g_then ?_ | refine g_in_normal ?_ | refine g_then_ret ?_ | refine g_in_ret ?_ | refine g_then_exit ?_ | refine g_in_exit rfl ?_ | refine g_in_exit_ne (by decide) ?_ | refine g_seq ?_ | refine g_region ?_ | refine g_block ?_ | refine g_ret ?_ | refine g_return_n ?_ | refine g_exit ?_ | refine g_skip ?_)
      refine o_move ?_
      refine o_move ?_
      refine o_indexR (ys := xs) (i := i) rfl rfl rfl hio rfl rfl ?_
      refine o_fieldR (ys := xs) rfl hpos ?_
      refine o_loadEN (off := 6) (ys := xs) (v := x.value.val) rfl hxi rfl rfl ?_
      refine o_alloc fun c6 => ?_
      refine o_store (v := x.value.val) rfl rfl rfl rfl rfl ?_
      first | refine g_endt ?_ | refine g_end ?_
      refine G.norm c6 x.value.val.cells rfl ?_
      generalize hv : x.value = v
      by_cases hk1 : v.kind = 1
      · cases hin : inS gs v with
        | true =>
          repeat (first | refine g_endt ?_ | refine g_end ?_ | refine g_then ?_ | refine g_in_normal ?_ | refine g_then_ret ?_ | refine g_in_ret ?_ | refine g_then_exit ?_ | refine g_in_exit rfl ?_ | refine g_in_exit_ne (by decide) ?_ | refine g_seq ?_ | refine g_region ?_ | refine g_block ?_ | refine g_ret ?_ | refine g_return_n ?_ | refine g_exit ?_ | refine g_skip ?_)
          first | refine o_field rfl ?_ | refine o_fieldR rfl (by omega) ?_
          refine o_load1 (v := .int .i64 v.kind) rfl rfl ?_
          refine o_neq rfl rfl ?_
          rw [show (v.kind != 1) = false from by simpa using hk1]
          refine o_move ?_
          first | (refine o_want rfl rfl rfl rfl rfl ?_; refine o_move ?_) | refine o_unwanted rfl rfl rfl rfl rfl ?_ | refine o_undef rfl rfl rfl ?_
          refine o_want rfl rfl rfl rfl rfl (o_loadN (v := v.val) rfl rfl rfl ?_)
          refine o_want rfl rfl rfl rfl rfl (o_callp (Has04_spec A gs.length c gs v rfl (by omega)) rfl rfl ?_)
          rintro _ _ ⟨rfl, rfl⟩
          first | refine o_pick_t rfl rfl ?_ | refine o_pick_f rfl rfl ?_
          first | refine g_endt ?_ | refine g_end ?_
          first | refine g_seq (g_cond_t rfl (by exact hin) ?_) | refine g_cond_t rfl (by exact hin) ?_
          repeat (first | refine g_endt ?_ | refine g_end ?_ | refine g_then ?_ | refine g_in_normal ?_ | refine g_then_ret ?_ | refine g_in_ret ?_ | refine g_then_exit ?_ | refine g_in_exit rfl ?_ | refine g_in_exit_ne (by decide) ?_ | refine g_seq ?_ | refine g_region ?_ | refine g_block ?_ | refine g_ret ?_ | refine g_return_n ?_ | refine g_exit ?_ | refine g_skip ?_)
          refine o_move ?_
          refine o_add (c := ((i + 1 : Nat) : Int)) rfl rfl (by omega) (by omega) (by omega) ?_
          refine o_assign ?_
          first | refine g_endt ?_ | refine g_end ?_
          repeat (first | refine g_endt ?_ | refine g_end ?_ | refine g_then ?_ | refine g_in_normal ?_ | refine g_then_ret ?_ | refine g_in_ret ?_ | refine g_then_exit ?_ | refine g_in_exit rfl ?_ | refine g_in_exit_ne (by decide) ?_ | refine g_seq ?_ | refine g_region ?_ | refine g_block ?_ | refine g_ret ?_ | refine g_return_n ?_ | refine g_exit ?_ | refine g_skip ?_)
          exact g_meets (⟨i + 1, hio⟩) (by first | exact trivial | (dsimp only; omega)) (Sat.mem (by repeat (first | exact trivial | refine And.intro rfl ?_)))
        | false =>
          have hng : v ∉ gs := fun h => by rw [inS_iff.2 h] at hin; cases hin
          obtain ⟨s1, s2⟩ := steps_law (l := xs) hk1 hng hg10
          repeat (first | refine g_endt ?_ | refine g_end ?_ | refine g_then ?_ | refine g_in_normal ?_ | refine g_then_ret ?_ | refine g_in_ret ?_ | refine g_then_exit ?_ | refine g_in_exit rfl ?_ | refine g_in_exit_ne (by decide) ?_ | refine g_seq ?_ | refine g_region ?_ | refine g_block ?_ | refine g_ret ?_ | refine g_return_n ?_ | refine g_exit ?_ | refine g_skip ?_)
          first | refine o_field rfl ?_ | refine o_fieldR rfl (by omega) ?_
          refine o_load1 (v := .int .i64 v.kind) rfl rfl ?_
          refine o_neq rfl rfl ?_
          rw [show (v.kind != 1) = false from by simpa using hk1]
          refine o_move ?_
          first | (refine o_want rfl rfl rfl rfl rfl ?_; refine o_move ?_) | refine o_unwanted rfl rfl rfl rfl rfl ?_ | refine o_undef rfl rfl rfl ?_
          refine o_want rfl rfl rfl rfl rfl (o_loadN (v := v.val) rfl rfl rfl ?_)
          refine o_want rfl rfl rfl rfl rfl (o_callp (Has04_spec A gs.length c gs v rfl (by omega)) rfl rfl ?_)
          rintro _ _ ⟨rfl, rfl⟩
          first | refine o_pick_t rfl rfl ?_ | refine o_pick_f rfl rfl ?_
          first | refine g_endt ?_ | refine g_end ?_
          first | refine g_seq (g_cond_f rfl (by exact hin) ?_) | refine g_cond_f rfl (by exact hin) ?_
          repeat (first | refine g_endt ?_ | refine g_end ?_ | refine g_then ?_ | refine g_in_normal ?_ | refine g_then_ret ?_ | refine g_in_ret ?_ | refine g_then_exit ?_ | refine g_in_exit rfl ?_ | refine g_in_exit_ne (by decide) ?_ | refine g_seq ?_ | refine g_region ?_ | refine g_block ?_ | refine g_ret ?_ | refine g_return_n ?_ | refine g_exit ?_ | refine g_skip ?_)
          refine o_assign ?_
          first | refine g_endt ?_ | refine g_end ?_
          repeat (first | refine g_endt ?_ | refine g_end ?_ | refine g_then ?_ | refine g_in_normal ?_ | refine g_then_ret ?_ | refine g_in_ret ?_ | refine g_then_exit ?_ | refine g_in_exit rfl ?_ | refine g_in_exit_ne (by decide) ?_ | refine g_seq ?_ | refine g_region ?_ | refine g_block ?_ | refine g_ret ?_ | refine g_return_n ?_ | refine g_exit ?_ | refine g_skip ?_)
          refine o_assign ?_
          first | refine g_endt ?_ | refine g_end ?_
          repeat (first | refine g_endt ?_ | refine g_end ?_ | refine g_then ?_ | refine g_in_normal ?_ | refine g_then_ret ?_ | refine g_in_ret ?_ | refine g_then_exit ?_ | refine g_in_exit rfl ?_ | refine g_in_exit_ne (by decide) ?_ | refine g_seq ?_ | refine g_region ?_ | refine g_block ?_ | refine g_ret ?_ | refine g_return_n ?_ | refine g_exit ?_ | refine g_skip ?_)
          refine g_loop (σ := {j : Nat // j ≤ xs.length}) (S := fun j => [(0, .slice A gs.length c), (1, .slice B xs.length d), (5, .int .i64 (i : Int)), (6, .pointer (some ⟨c6, 0, none⟩)), (7, .int .i64 (leastF gs xs v 1000 (xs.take j.1))), (8, .int .i64 (j.1 : Int))]) (H := fun _ => [cellsB c6 v.val.cells 25, psl encS 3 A gs, psl encE 12 B xs]) (μ := fun j => xs.length - j.1)
            (s0 := ⟨0, Nat.zero_le _⟩) (Sat.mem ⟨rfl, rfl, rfl, rfl, rfl, rfl, trivial⟩) ?_
          rintro ⟨j, hj⟩ ρ3
          dsimp only at hj ⊢
          repeat (first | refine g_endt ?_ | refine g_end ?_ | refine g_then ?_ | refine g_in_normal ?_ | refine g_then_ret ?_ | refine g_in_ret ?_ | refine g_then_exit ?_ | refine g_in_exit rfl ?_ | refine g_in_exit_ne (by decide) ?_ | refine g_seq ?_ | refine g_region ?_ | refine g_block ?_ | refine g_ret ?_ | refine g_return_n ?_ | refine g_exit ?_ | refine g_skip ?_)
          refine o_move ?_
          refine o_move ?_
          refine o_len rfl rfl ?_
          refine o_lss rfl rfl ?_
          first | refine g_endt ?_ | refine g_end ?_
          by_cases hjo : j < xs.length
          · first | refine g_seq (g_cond_t rfl (by first | rfl | (simp; done) | (simp; omega) | (simp; assumption)) ?_) | refine g_cond_t rfl (by first | rfl | (simp; done) | (simp; omega) | (simp; assumption)) ?_
            obtain ⟨y, hyj⟩ : ∃ y, xs[j]? = some y := ⟨_, List.getElem?_eq_getElem hjo⟩
            have hlt := leastF_take (gs := gs) (v := v) hyj
            repeat (first | refine g_endt ?_ | refine g_end ?_ | refine g_then ?_ | refine g_in_normal ?_ | refine g_then_ret ?_ | refine g_in_ret ?_ | refine g_then_exit ?_ | refine g_in_exit rfl ?_ | refine g_in_exit_ne (by decide) ?_ | refine g_seq ?_ | refine g_region ?_ | refine g_block ?_ | refine g_ret ?_ | refine g_return_n ?_ | refine g_exit ?_ | refine g_skip ?_)
            refine g_draw [] [0,1,2,3,4,5,6] [cellsB c6 v.val.cells 25, psl encS 3 A gs, psl encE 12 B xs] mixed rfl ?_
            refine ob_q rfl rfl ⟨_, fun X Q h => o_move (g_end (h _ _ ⟨rfl, rfl⟩)), ?_⟩
            refine ob_q rfl rfl ⟨_, fun X Q h => o_move (g_end (h _ _ ⟨rfl, rfl⟩)), ?_⟩
            refine ob_q rfl rfl ⟨_, fun X Q h => o_indexR (ys := xs) (i := j) rfl rfl rfl hjo rfl rfl (g_end (h _ _ ⟨rfl, rfl⟩)), ?_⟩
            refine ob_q rfl rfl ⟨_, fun X Q h => o_fieldR (ys := xs) rfl hpos (g_end (h _ _ ⟨rfl, rfl⟩)), ?_⟩
            refine ob_q rfl rfl ⟨_, fun X Q h => o_loadEN (off := 6) (ys := xs) (v := y.value.val) rfl hyj rfl rfl (g_end (h _ _ ⟨rfl, rfl⟩)), ?_⟩
            refine ob_q rfl rfl ⟨_, fun X Q h => o_loadN (v := v.val) rfl rfl rfl (g_end (h _ _ ⟨rfl, rfl⟩)), ?_⟩
            refine ob_q rfl rfl ⟨_, fun X Q h => o_eqty rfl rfl (eq_sym y.value v) (g_end (h _ _ ⟨rfl, rfl⟩)), ?_⟩
            refine ob_nil ?_
            cases hb : y.value.beq v with
            | true =>
              rw [hb, if_pos rfl] at hlt
              first | refine g_seq (g_cond_t rfl (by first | rfl | (simp; done) | (simp; omega) | (simp; assumption)) ?_) | refine g_cond_t rfl (by first | rfl | (simp; done) | (simp; omega) | (simp; assumption)) ?_
              repeat (first | refine g_endt ?_ | refine g_end ?_ | refine g_then ?_ | refine g_in_normal ?_ | refine g_then_ret ?_ | refine g_in_ret ?_ | refine g_then_exit ?_ | refine g_in_exit rfl ?_ | refine g_in_exit_ne (by decide) ?_ | refine g_seq ?_ | refine g_region ?_ | refine g_block ?_ | refine g_ret ?_ | refine g_return_n ?_ | refine g_exit ?_ | refine g_skip ?_)
              refine o_move ?_
              refine o_move ?_
              refine o_move ?_
              refine o_move ?_
              refine o_move ?_
              refine o_indexR (ys := xs) (i := j) rfl rfl rfl hjo rfl rfl ?_
              refine o_fieldR (ys := xs) rfl hpos ?_
              refine o_loadEN (off := 0) (ys := xs) (v := y.id.val) rfl hyj rfl rfl ?_
              refine o_callp (level_spec A gs.length c gs rfl (by omega) B xs.length d xs rfl (by omega) y.id) rfl rfl ?_
              rintro _ _ ⟨rfl, rfl⟩
              refine o_min rfl rfl ?_
              refine o_assign ?_
              first | refine g_endt ?_ | refine g_end ?_
              rw [← hlt]
              repeat (first | refine g_endt ?_ | refine g_end ?_ | refine g_then ?_ | refine g_in_normal ?_ | refine g_then_ret ?_ | refine g_in_ret ?_ | refine g_then_exit ?_ | refine g_in_exit rfl ?_ | refine g_in_exit_ne (by decide) ?_ | refine g_seq ?_ | refine g_region ?_ | refine g_block ?_ | refine g_ret ?_ | refine g_return_n ?_ | refine g_exit ?_ | refine g_skip ?_)
              refine o_move ?_
              refine o_add (c := ((j + 1 : Nat) : Int)) rfl rfl (by omega) (by omega) (by omega) ?_
              refine o_assign ?_
              first | refine g_endt ?_ | refine g_end ?_
              repeat (first | refine g_endt ?_ | refine g_end ?_ | refine g_then ?_ | refine g_in_normal ?_ | refine g_then_ret ?_ | refine g_in_ret ?_ | refine g_then_exit ?_ | refine g_in_exit rfl ?_ | refine g_in_exit_ne (by decide) ?_ | refine g_seq ?_ | refine g_region ?_ | refine g_block ?_ | refine g_ret ?_ | refine g_return_n ?_ | refine g_exit ?_ | refine g_skip ?_)
              exact g_meets (⟨j + 1, hjo⟩) (by first | exact trivial | (dsimp only; omega)) (Sat.mem (by repeat (first | exact trivial | refine And.intro rfl ?_)))
            | false =>
              rw [hb, if_neg (by simp)] at hlt
              first | refine g_seq (g_cond_f rfl (by first | rfl | (simp; done) | (simp; omega) | (simp; assumption)) ?_) | refine g_cond_f rfl (by first | rfl | (simp; done) | (simp; omega) | (simp; assumption)) ?_
              rw [← hlt]
              repeat (first | refine g_endt ?_ | refine g_end ?_ | refine g_then ?_ | refine g_in_normal ?_ | refine g_then_ret ?_ | refine g_in_ret ?_ | refine g_then_exit ?_ | refine g_in_exit rfl ?_ | refine g_in_exit_ne (by decide) ?_ | refine g_seq ?_ | refine g_region ?_ | refine g_block ?_ | refine g_ret ?_ | refine g_return_n ?_ | refine g_exit ?_ | refine g_skip ?_)
              refine o_move ?_
              refine o_add (c := ((j + 1 : Nat) : Int)) rfl rfl (by omega) (by omega) (by omega) ?_
              refine o_assign ?_
              first | refine g_endt ?_ | refine g_end ?_
              repeat (first | refine g_endt ?_ | refine g_end ?_ | refine g_then ?_ | refine g_in_normal ?_ | refine g_then_ret ?_ | refine g_in_ret ?_ | refine g_then_exit ?_ | refine g_in_exit rfl ?_ | refine g_in_exit_ne (by decide) ?_ | refine g_seq ?_ | refine g_region ?_ | refine g_block ?_ | refine g_ret ?_ | refine g_return_n ?_ | refine g_exit ?_ | refine g_skip ?_)
              exact g_meets (⟨j + 1, hjo⟩) (by first | exact trivial | (dsimp only; omega)) (Sat.mem (by repeat (first | exact trivial | refine And.intro rfl ?_)))
          · first | refine g_seq (g_cond_f rfl (by simp; omega) ?_) | refine g_cond_f rfl (by simp; omega) ?_
            rw [show xs.take j = xs from List.take_of_length_le (by omega)]
            have e1 : decide (levT gs xs v > leastF gs xs v 1000 xs) = false := decide_eq_false (by omega)
            by_cases h4 : levT gs xs v < 1000
            · have e2 : decide (levT gs xs v < 1000) = true := decide_eq_true h4
              have e3 := s2 h4
              repeat (first | refine g_endt ?_ | refine g_end ?_ | refine g_then ?_ | refine g_in_normal ?_ | refine g_then_ret ?_ | refine g_in_ret ?_ | refine g_then_exit ?_ | refine g_in_exit rfl ?_ | refine g_in_exit_ne (by decide) ?_ | refine g_seq ?_ | refine g_region ?_ | refine g_block ?_ | refine g_ret ?_ | refine g_return_n ?_ | refine g_exit ?_ | refine g_skip ?_)
              refine o_move ?_
              refine o_move ?_
              refine o_loadN (v := v.val) rfl rfl rfl ?_
              refine o_callp (level_spec A gs.length c gs rfl (by omega) B xs.length d xs rfl (by omega) v) rfl rfl ?_
              rintro _ _ ⟨rfl, rfl⟩
              refine o_move ?_
              refine o_gtr rfl rfl ?_
              rw [e1]
              refine o_move ?_
              first | (refine o_want rfl rfl rfl rfl rfl ?_; refine o_move ?_) | refine o_unwanted rfl rfl rfl rfl rfl ?_ | refine o_undef rfl rfl rfl ?_
              first | (refine o_want rfl rfl rfl rfl rfl ?_; refine o_move ?_) | refine o_unwanted rfl rfl rfl rfl rfl ?_ | refine o_undef rfl rfl rfl ?_
              refine o_want rfl rfl rfl rfl rfl (o_loadN (v := v.val) rfl rfl rfl ?_)
              refine o_want rfl rfl rfl rfl rfl (o_callp (level_spec A gs.length c gs rfl (by omega) B xs.length d xs rfl (by omega) v) rfl rfl ?_)
              rintro _ _ ⟨rfl, rfl⟩
              first | (refine o_want rfl rfl rfl rfl rfl ?_; refine o_lss rfl rfl ?_) | refine o_unwanted rfl rfl rfl rfl rfl ?_ | refine o_undef rfl rfl rfl ?_
              rw [e2]
              first | (refine o_want rfl rfl rfl rfl rfl ?_; refine o_move ?_) | refine o_unwanted rfl rfl rfl rfl rfl ?_ | refine o_undef rfl rfl rfl ?_
              first | (refine o_want rfl rfl rfl rfl rfl ?_; refine o_move ?_) | refine o_unwanted rfl rfl rfl rfl rfl ?_ | refine o_undef rfl rfl rfl ?_
              first | (refine o_want rfl rfl rfl rfl rfl ?_; refine o_move ?_) | refine o_unwanted rfl rfl rfl rfl rfl ?_ | refine o_undef rfl rfl rfl ?_
              refine o_want rfl rfl rfl rfl rfl (o_loadN (v := v.val) rfl rfl rfl ?_)
              refine o_want rfl rfl rfl rfl rfl (o_callp (level_spec A gs.length c gs rfl (by omega) B xs.length d xs rfl (by omega) v) rfl rfl ?_)
              rintro _ _ ⟨rfl, rfl⟩
              first | (refine o_want rfl rfl rfl rfl rfl ?_; refine o_move ?_) | refine o_unwanted rfl rfl rfl rfl rfl ?_ | refine o_undef rfl rfl rfl ?_
              first | (refine o_want rfl rfl rfl rfl rfl ?_; refine o_neq rfl rfl ?_) | refine o_unwanted rfl rfl rfl rfl rfl ?_ | refine o_undef rfl rfl rfl ?_
              first | (refine o_want rfl rfl rfl rfl rfl ?_; (first | refine o_pick_t rfl rfl ?_ | refine o_pick_f rfl rfl ?_)) | refine o_unwanted rfl rfl rfl rfl rfl ?_ | refine o_undef rfl rfl rfl ?_
              first | refine o_pick_t rfl rfl ?_ | refine o_pick_f rfl rfl ?_
              first | refine g_endt ?_ | refine g_end ?_
              first | refine g_seq (g_cond_f rfl (by rw [← e3]; simp) ?_) | refine g_cond_f rfl (by rw [← e3]; simp) ?_
              repeat (first | refine g_endt ?_ | refine g_end ?_ | refine g_then ?_ | refine g_in_normal ?_ | refine g_then_ret ?_ | refine g_in_ret ?_ | refine g_then_exit ?_ | refine g_in_exit rfl ?_ | refine g_in_exit_ne (by decide) ?_ | refine g_seq ?_ | refine g_region ?_ | refine g_block ?_ | refine g_ret ?_ | refine g_return_n ?_ | refine g_exit ?_ | refine g_skip ?_)
              refine o_move ?_
              refine o_add (c := ((i + 1 : Nat) : Int)) rfl rfl (by omega) (by omega) (by omega) ?_
              refine o_assign ?_
              first | refine g_endt ?_ | refine g_end ?_
              repeat (first | refine g_endt ?_ | refine g_end ?_ | refine g_then ?_ | refine g_in_normal ?_ | refine g_then_ret ?_ | refine g_in_ret ?_ | refine g_then_exit ?_ | refine g_in_exit rfl ?_ | refine g_in_exit_ne (by decide) ?_ | refine g_seq ?_ | refine g_region ?_ | refine g_block ?_ | refine g_ret ?_ | refine g_return_n ?_ | refine g_exit ?_ | refine g_skip ?_)
              exact g_meets (⟨i + 1, hio⟩) (by first | exact trivial | (dsimp only; omega)) (Sat.mem (by repeat (first | exact trivial | refine And.intro rfl ?_)))
            · have e2 : decide (levT gs xs v < 1000) = false := decide_eq_false h4
              repeat (first | refine g_endt ?_ | refine g_end ?_ | refine g_then ?_ | refine g_in_normal ?_ | refine g_then_ret ?_ | refine g_in_ret ?_ | refine g_then_exit ?_ | refine g_in_exit rfl ?_ | refine g_in_exit_ne (by decide) ?_ | refine g_seq ?_ | refine g_region ?_ | refine g_block ?_ | refine g_ret ?_ | refine g_return_n ?_ | refine g_exit ?_ | refine g_skip ?_)
              refine o_move ?_
              refine o_move ?_
              refine o_loadN (v := v.val) rfl rfl rfl ?_
              refine o_callp (level_spec A gs.length c gs rfl (by omega) B xs.length d xs rfl (by omega) v) rfl rfl ?_
              rintro _ _ ⟨rfl, rfl⟩
              refine o_move ?_
              refine o_gtr rfl rfl ?_
              rw [e1]
              refine o_move ?_
              first | (refine o_want rfl rfl rfl rfl rfl ?_; refine o_move ?_) | refine o_unwanted rfl rfl rfl rfl rfl ?_ | refine o_undef rfl rfl rfl ?_
              first | (refine o_want rfl rfl rfl rfl rfl ?_; refine o_move ?_) | refine o_unwanted rfl rfl rfl rfl rfl ?_ | refine o_undef rfl rfl rfl ?_
              refine o_want rfl rfl rfl rfl rfl (o_loadN (v := v.val) rfl rfl rfl ?_)
              refine o_want rfl rfl rfl rfl rfl (o_callp (level_spec A gs.length c gs rfl (by omega) B xs.length d xs rfl (by omega) v) rfl rfl ?_)
              rintro _ _ ⟨rfl, rfl⟩
              first | (refine o_want rfl rfl rfl rfl rfl ?_; refine o_lss rfl rfl ?_) | refine o_unwanted rfl rfl rfl rfl rfl ?_ | refine o_undef rfl rfl rfl ?_
              rw [e2]
              first | (refine o_want rfl rfl rfl rfl rfl ?_; refine o_move ?_) | refine o_unwanted rfl rfl rfl rfl rfl ?_ | refine o_undef rfl rfl rfl ?_
              first | (refine o_want rfl rfl rfl rfl rfl ?_; refine o_move ?_) | refine o_unwanted rfl rfl rfl rfl rfl ?_ | refine o_undef rfl rfl rfl ?_
              first | (refine o_want rfl rfl rfl rfl rfl ?_; refine o_move ?_) | refine o_unwanted rfl rfl rfl rfl rfl ?_ | refine o_undef rfl rfl rfl ?_
              first | refine o_unwanted rfl rfl rfl rfl rfl ?_ | refine o_undef rfl rfl rfl ?_
              first | refine o_unwanted rfl rfl rfl rfl rfl ?_ | refine o_undef rfl rfl rfl ?_
              first | (refine o_want rfl rfl rfl rfl rfl ?_; refine o_move ?_) | refine o_unwanted rfl rfl rfl rfl rfl ?_ | refine o_undef rfl rfl rfl ?_
              first | (refine o_want rfl rfl rfl rfl rfl ?_; refine o_neq rfl rfl ?_) | refine o_unwanted rfl rfl rfl rfl rfl ?_ | refine o_undef rfl rfl rfl ?_
              first | (refine o_want rfl rfl rfl rfl rfl ?_; (first | refine o_pick_t rfl rfl ?_ | refine o_pick_f rfl rfl ?_)) | refine o_unwanted rfl rfl rfl rfl rfl ?_ | refine o_undef rfl rfl rfl ?_
              first | refine o_pick_t rfl rfl ?_ | refine o_pick_f rfl rfl ?_
              first | refine g_endt ?_ | refine g_end ?_
              first | refine g_seq (g_cond_f rfl (by first | rfl | (simp; done) | (simp; omega) | (simp; assumption)) ?_) | refine g_cond_f rfl (by first | rfl | (simp; done) | (simp; omega) | (simp; assumption)) ?_
              repeat (first | refine g_endt ?_ | refine g_end ?_ | refine g_then ?_ | refine g_in_normal ?_ | refine g_then_ret ?_ | refine g_in_ret ?_ | refine g_then_exit ?_ | refine g_in_exit rfl ?_ | refine g_in_exit_ne (by decide) ?_ | refine g_seq ?_ | refine g_region ?_ | refine g_block ?_ | refine g_ret ?_ | refine g_return_n ?_ | refine g_exit ?_ | refine g_skip ?_)
              refine o_move ?_
              refine o_add (c := ((i + 1 : Nat) : Int)) rfl rfl (by omega) (by omega) (by omega) ?_
              refine o_assign ?_
              first | refine g_endt ?_ | refine g_end ?_
              repeat (first | refine g_endt ?_ | refine g_end ?_ | refine g_then ?_ | refine g_in_normal ?_ | refine g_then_ret ?_ | refine g_in_ret ?_ | refine g_then_exit ?_ | refine g_in_exit rfl ?_ | refine g_in_exit_ne (by decide) ?_ | refine g_seq ?_ | refine g_region ?_ | refine g_block ?_ | refine g_ret ?_ | refine g_return_n ?_ | refine g_exit ?_ | refine g_skip ?_)
              exact g_meets (⟨i + 1, hio⟩) (by first | exact trivial | (dsimp only; omega)) (Sat.mem (by repeat (first | exact trivial | refine And.intro rfl ?_)))
      · skip
        repeat (first | refine g_endt ?_ | refine g_end ?_ | refine g_then ?_ | refine g_in_normal ?_ | refine g_then_ret ?_ | refine g_in_ret ?_ | refine g_then_exit ?_ | refine g_in_exit rfl ?_ | refine g_in_exit_ne (by decide) ?_ | refine g_seq ?_ | refine g_region ?_ | refine g_block ?_ | refine g_ret ?_ | refine g_return_n ?_ | refine g_exit ?_ | refine g_skip ?_)
        first | refine o_field rfl ?_ | refine o_fieldR rfl (by omega) ?_
        refine o_load1 (v := .int .i64 v.kind) rfl rfl ?_
        refine o_neq rfl rfl ?_
        rw [show (v.kind != 1) = true from by simpa using hk1]
        refine o_move ?_
        first | (refine o_want rfl rfl rfl rfl rfl ?_; refine o_move ?_) | refine o_unwanted rfl rfl rfl rfl rfl ?_ | refine o_undef rfl rfl rfl ?_
        first | refine o_unwanted rfl rfl rfl rfl rfl ?_ | refine o_undef rfl rfl rfl ?_
        first | refine o_unwanted rfl rfl rfl rfl rfl ?_ | refine o_undef rfl rfl rfl ?_
        first | refine o_pick_t rfl rfl ?_ | refine o_pick_f rfl rfl ?_
        first | refine g_endt ?_ | refine g_end ?_
        first | refine g_seq (g_cond_t rfl (by first | rfl | (simp; done) | (simp; omega) | (simp; assumption)) ?_) | refine g_cond_t rfl (by first | rfl | (simp; done) | (simp; omega) | (simp; assumption)) ?_
        repeat (first | refine g_endt ?_ | refine g_end ?_ | refine g_then ?_ | refine g_in_normal ?_ | refine g_then_ret ?_ | refine g_in_ret ?_ | refine g_then_exit ?_ | refine g_in_exit rfl ?_ | refine g_in_exit_ne (by decide) ?_ | refine g_seq ?_ | refine g_region ?_ | refine g_block ?_ | refine g_ret ?_ | refine g_return_n ?_ | refine g_exit ?_ | refine g_skip ?_)
        refine o_move ?_
        refine o_add (c := ((i + 1 : Nat) : Int)) rfl rfl (by omega) (by omega) (by omega) ?_
        refine o_assign ?_
        first | refine g_endt ?_ | refine g_end ?_
        repeat (first | refine g_endt ?_ | refine g_end ?_ | refine g_then ?_ | refine g_in_normal ?_ | refine g_then_ret ?_ | refine g_in_ret ?_ | refine g_then_exit ?_ | refine g_in_exit rfl ?_ | refine g_in_exit_ne (by decide) ?_ | refine g_seq ?_ | refine g_region ?_ | refine g_block ?_ | refine g_ret ?_ | refine g_return_n ?_ | refine g_exit ?_ | refine g_skip ?_)
        exact g_meets (⟨i + 1, hio⟩) (by first | exact trivial | (dsimp only; omega)) (Sat.mem (by repeat (first | exact trivial | refine And.intro rfl ?_)))
    · first | refine g_seq (g_cond_f rfl (by simp; omega) ?_) | refine g_cond_f rfl (by simp; omega) ?_
      repeat (first | refine g_endt ?_ | refine g_end ?_ | refine g_then ?_ | refine g_in_normal ?_ | refine g_then_ret ?_ | refine g_in_ret ?_ | refine g_then_exit ?_ | refine g_in_exit rfl ?_ | refine g_in_exit_ne (by decide) ?_ | refine g_seq ?_ | refine g_region ?_ | refine g_block ?_ | refine g_ret ?_ | refine g_return_n ?_ | refine g_exit ?_ | refine g_skip ?_)
      refine o_call (wakes11_spec) rfl rfl ?_
      rintro _ _ ⟨rfl, rfl⟩
      refine o_assign ?_
      first | refine g_endt ?_ | refine g_end ?_
      repeat (first | refine g_endt ?_ | refine g_end ?_ | refine g_then ?_ | refine g_in_normal ?_ | refine g_then_ret ?_ | refine g_in_ret ?_ | refine g_then_exit ?_ | refine g_in_exit rfl ?_ | refine g_in_exit_ne (by decide) ?_ | refine g_seq ?_ | refine g_region ?_ | refine g_block ?_ | refine g_ret ?_ | refine g_return_n ?_ | refine g_exit ?_ | refine g_skip ?_)
      exact ret1 (K := []) rfl (resT (v := .bool true) rfl) ⟨rfl, rfl⟩
end Go.Proofs.Ytfhkhghjlhohdaa
