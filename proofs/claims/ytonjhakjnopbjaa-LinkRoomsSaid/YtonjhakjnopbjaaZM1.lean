/- Parts of a proof, in order. -/
import Derived.Test.YtonjhakjnopbjaaZL4

set_option linter.unusedSimpArgs false
set_option linter.unusedVariables false
/- The smaller of two numbers. Plain library, no program in sight. -/
namespace Go.Sl
open Go Go.Proofs
section
variable {w0 : World} {A : SProp} {L : List SProp} {ro : Option Nat} {P : Program} {Q : Exit → Act → World → Prop} {all : Array Oper} {os : List Oper} {n : Nat} {ρ : Nat → Value} {ds : List Nat}
variable {d : Option Tmp} {ty : TypeId} {pos : String} {af : Array Edge} {x y : Operand}
theorem o_min {k : IntKind} {a b : Int} {tys : Array TypeId} (hx : ev n ρ x = .int k a) (hy : ev n ρ y = .int k b)
    (h : G w0 A L (fun w => runL ro P all Q os (act n (updo ρ d (.int k (min a b))) ds) w)) :
    G w0 A L (fun w => runL ro P all Q ({ dst := d, op := .call { callee := .builtin .min, args := #[x, y], argTypes := tys }, type := ty, pos := pos, after := af, guard := none } :: os) (act n ρ ds) w) :=
  o_val rfl (by intro c e; cases e) (fun w _ _ => by
    have e : (if b < a then b else a) = min a b := by omega
    simp only [execOp, resolve, List.map_toArray, List.map_cons, List.map_nil, hx, hy]
    simp [invoke, builtin, Builtin.min_, Builtin.min2, e]) h
end
end Go.Sl
/- As many input elements as there may be: the law, walked. -/
namespace Go.Proofs.Ytonjhakjnopbjaa
open Go Go.Sl
attribute [local irreducible] Code.wpIn roundPost bodyPostM runL Ret Meets Begin

def elK (k : Nat) : ElemD := elemE 1 ⟨#[120]⟩ (symN (k : Int))
def elZ : ElemD := elemE 2 ⟨#[120]⟩ (symN 1)
theorem elK_ok : ((List.range 100).all fun k => !badIn (elK k)) = true := by kernel_rfl
theorem elK_good {k : Nat} (h : k < 100) : badIn (elK k) = false := by
  have := List.all_eq_true.1 elK_ok k (List.mem_range.2 h)
  simpa using this
theorem elZ_good : badIn elZ = false := by kernel_rfl
theorem elK_small (k : Nat) : (elK k).small := exSmall
theorem elZ_small : elZ.small := exSmall
theorem elK_cmp {i j : Nat} : (elK i).cmp (elK j) = 0 ↔ i = j := by
  rw [ElemD.cmp_iff]
  constructor
  · rintro ⟨_, _, h, _⟩
    have h2 : ((i : Int)) = (j : Int) := congrArg SymD.n h
    omega
  · rintro rfl
    exact ⟨rfl, rfl, rfl, rfl⟩
theorem elZ_cmp (i : Nat) : (elK i).cmp elZ ≠ 0 := by
  rw [Ne, ElemD.cmp_iff]
  rintro ⟨h, _⟩
  have h2 : (1 : Int) = 2 := congrArg SymD.n h
  omega
def roomE (k : Nat) : List ElemD := adds ((List.range (min k 64)).map elK)
theorem roomE_facts (k : Nat) : (∀ z, z ∈ roomE k ↔ ∃ i, i < min k 64 ∧ z = elK i) ∧ Srt ElemD.cmp (roomE k) := by
  obtain ⟨h1, _, h3, _⟩ := adds_all ((List.range (min k 64)).map elK) (by simp; omega)
  refine ⟨fun z => ?_, h3⟩
  unfold roomE
  rw [h1 z]
  constructor
  · rintro ⟨e, he, _, rfl⟩
    obtain ⟨i, hi, rfl⟩ := List.mem_map.1 he
    exact ⟨i, List.mem_range.1 hi, rfl⟩
  · rintro ⟨i, hi, rfl⟩
    exact ⟨elK i, List.mem_map.2 ⟨i, List.mem_range.2 hi, rfl⟩, elK_good (by omega), rfl⟩
theorem roomE_has (k j : Nat) : hasC ElemD.cmp (roomE k) (elK j) = decide (j < min k 64) := by
  rw [Bool.eq_iff_iff, decide_eq_true_eq]
  unfold hasC
  rw [List.any_eq_true]
  constructor
  · rintro ⟨y, hy, e⟩
    obtain ⟨i, hi, rfl⟩ := ((roomE_facts k).1 y).1 hy
    have := elK_cmp.1 (show (elK i).cmp (elK j) = 0 by simpa using e)
    omega
  · intro h
    exact ⟨elK j, ((roomE_facts k).1 _).2 ⟨j, h, rfl⟩, by simpa using elK_cmp.2 rfl⟩
theorem roomE_full {k : Nat} (h : 64 ≤ k) : roomE (k + 1) = roomE k := by
  unfold roomE; rw [show min (k + 1) 64 = min k 64 by omega]
theorem roomE_step {k : Nat} (h : k < 64) : roomE (k + 1) = addL (roomE k) (elK k) := by
  unfold roomE
  rw [show min (k + 1) 64 = k + 1 by omega, show min k 64 = k by omega, List.range_succ, List.map_append, List.map_singleton, adds_snoc]
theorem roomE_len : ∀ (k : Nat), (roomE k).length = min k 64
  | 0 => rfl
  | k + 1 => by
    have ih := roomE_len k
    by_cases h : k < 64
    · rw [roomE_step h]
      have hh : hasC ElemD.cmp (roomE k) (elK k) = false := by rw [roomE_has]; exact decide_eq_false (by omega)
      rw [addL_new (elK_good (by omega)) hh (by omega), length_insC]
      have hh2 : hasC ElemD.cmp (roomE k) { elK k with tag := 0 } = false := hh
      rw [hh2]
      simp only [Bool.false_eq_true, if_false]
      omega
    · rw [roomE_full (by omega)]; omega
theorem roomE_add {k : Nat} (hk : k < 80) : addN (roomE k) (elK k) = (if k < 64 then 0 else 7) ∧ addL (roomE k) (elK k) = roomE (k + 1) := by
  have hl := roomE_len k
  have hb : badIn (elK k) = false := elK_good (by omega)
  have hh : hasC ElemD.cmp (roomE k) (elK k) = false := by rw [roomE_has]; exact decide_eq_false (by omega)
  by_cases h : k < 64
  · refine ⟨?_, (roomE_step h).symm⟩
    unfold addN
    rw [if_pos h, hb, hh, if_neg (by simp), if_neg (by simp), if_neg (by omega)]
  · have h7 : addN (roomE k) (elK k) = 7 := by
      unfold addN
      rw [hb, hh, if_neg (by simp), if_neg (by simp), if_pos (by omega)]
    rw [if_neg h]
    refine ⟨h7, ?_⟩
    unfold addL
    rw [if_neg (by rw [h7]; omega), roomE_full (by omega)]
theorem delC_len {ys : List ElemD} (hs : Srt ElemD.cmp ys) (x : ElemD) : (delC ElemD.cmp ys x).length = if hasC ElemD.cmp ys x then ys.length - 1 else ys.length := by
  obtain ⟨k, t, h⟩ := hs.find linElem x
  rw [← delC_of linElem hs h, hasC_of h]
  cases t with
  | true =>
    obtain ⟨y, hy, _⟩ := h.2.1 rfl
    rw [if_pos rfl, cond_true, List.length_eraseIdx, if_pos (List.getElem?_eq_some_iff.1 hy).1]
  | false => rfl
theorem AddK_spec (i k : Nat) (hk : k < 80) : Ctr Try.prog 17 [.pointer (some ⟨i, 0, none⟩), (elemE 1 ⟨#[120]⟩ (symN (k : Int))).val] [InA i (roomE k)]
    (fun v M => v = .int .i64 (if k < 64 then 0 else 7) ∧ M = [InA i (roomE (k + 1))]) := by
  have h := linkAdd_spec i (roomE k) (elK k) (roomE_facts k).2 (by rw [roomE_len]; omega) (elK_small k)
  rw [(roomE_add hk).1, (roomE_add hk).2] at h
  exact h
theorem DropK_spec (i n k : Nat) : Ctr Try.prog 23 [.pointer (some ⟨i, 0, none⟩), (elemE 1 ⟨#[120]⟩ (symN (k : Int))).val] [InA i (roomE n)]
    (fun v M => v = .int .i64 (if k < min n 64 then 0 else 4) ∧ M = [InA i (delC ElemD.cmp (roomE n) (elK k))]) := by
  have h := linkDrop_spec i (roomE n) (elK k) (roomE_facts n).2 (by rw [roomE_len]; omega)
  rw [roomE_has] at h
  refine h.mono fun v M ⟨h1, h2⟩ => ⟨?_, h2⟩
  rw [h1]
  by_cases hk : k < min n 64 <;> simp [hk]
theorem AddZ_spec (i n k : Nat) : Ctr Try.prog 17 [.pointer (some ⟨i, 0, none⟩), (elemE 2 ⟨#[120]⟩ (symN 1)).val] [InA i (delC ElemD.cmp (roomE n) (elK k))]
    (fun v M => v = .int .i64 (if n < 64 ∨ k < min n 64 then 0 else 7) ∧ ∃ ys, M = [InA i ys]) := by
  have hs : Srt ElemD.cmp (delC ElemD.cmp (roomE n) (elK k)) := (roomE_facts n).2.filter _
  have hl := delC_len (roomE_facts n).2 (elK k)
  rw [roomE_has, roomE_len] at hl
  have h := linkAdd_spec i _ elZ hs (by rw [hl]; split <;> omega) elZ_small
  refine h.mono fun v M ⟨h1, h2⟩ => ⟨?_, _, h2⟩
  rw [h1]
  congr 1
  have hno : hasC ElemD.cmp (delC ElemD.cmp (roomE n) (elK k)) elZ = false := by
    refine List.any_eq_false.2 fun y hy => ?_
    obtain ⟨i, _, rfl⟩ := ((roomE_facts n).1 y).1 (mem_delC.1 hy).1
    simpa using elZ_cmp i
  unfold addN
  rw [elZ_good, hno, if_neg (by simp), if_neg (by simp)]
  by_cases hk : k < min n 64
  · rw [decide_eq_true hk, if_pos rfl] at hl
    rw [if_pos (Or.inr hk : n < 64 ∨ k < min n 64), if_neg (by omega : ¬ 64 ≤ (delC ElemD.cmp (roomE n) (elK k)).length)]
  · rw [decide_eq_false hk, if_neg (by simp)] at hl
    by_cases hn : n < 64
    · rw [if_pos (Or.inl hn : n < 64 ∨ k < min n 64), if_neg (by omega : ¬ 64 ≤ (delC ElemD.cmp (roomE n) (elK k)).length)]
    · rw [if_neg (by omega : ¬ (n < 64 ∨ k < min n 64)), if_pos (by omega : 64 ≤ (delC ElemD.cmp (roomE n) (elK k)).length)]
set_option maxHeartbeats 20000000 in
theorem LinkRooms_spec (n0 o0 : Int) : Ctr Try.prog 5 [.int .i64 n0, .int .i64 o0] [] (fun v M => v = .bool true ∧ M = []) := by
  refine spec_of Try.func5 rfl Try.ntmps5 rfl fun w0 F => ?_
  -- ponder/ponderlaw26.LinkRooms
  repeat (first | refine g_endt ?_ | refine g_end ?_ | refine g_then ?_ | refine g_in_normal ?_ | refine g_then_ret ?_ | refine g_in_ret ?_ | refine g_then_exit ?_ | refine g_in_exit rfl ?_ | refine g_in_exit_ne (by decide) ?_ | refine g_seq ?_ | refine g_region ?_ | refine g_block ?_ | refine g_ret ?_ | refine g_return_n ?_ | refine g_exit ?_ | refine g_skip ?_)
  refine o_assign ?_
  first | refine g_endt ?_ | refine g_end ?_
  repeat (first | refine g_endt ?_ | refine g_end ?_ | refine g_then ?_ | refine g_in_normal ?_ | refine g_then_ret ?_ | refine g_in_ret ?_ | refine g_then_exit ?_ | refine g_in_exit rfl ?_ | refine g_in_exit_ne (by decide) ?_ | refine g_seq ?_ | refine g_region ?_ | refine g_block ?_ | refine g_ret ?_ | refine g_return_n ?_ | refine g_exit ?_ | refine g_skip ?_)
  refine o_call (linkNew_spec) rfl rfl ?_
  rintro _ _ ⟨ia, rfl, rfl⟩
  refine o_assign ?_
  first | refine g_endt ?_ | refine g_end ?_
  repeat (first | refine g_endt ?_ | refine g_end ?_ | refine g_then ?_ | refine g_in_normal ?_ | refine g_then_ret ?_ | refine g_in_ret ?_ | refine g_then_exit ?_ | refine g_in_exit rfl ?_ | refine g_in_exit_ne (by decide) ?_ | refine g_seq ?_ | refine g_region ?_ | refine g_block ?_ | refine g_ret ?_ | refine g_return_n ?_ | refine g_exit ?_ | refine g_skip ?_)
  refine o_move ?_
  refine o_peql rfl ?_
  first | refine g_endt ?_ | refine g_end ?_
  first | refine g_seq (g_cond_f rfl (by first | rfl | (simp; done) | (simp; omega) | (simp; assumption)) ?_) | refine g_cond_f rfl (by first | rfl | (simp; done) | (simp; omega) | (simp; assumption)) ?_
  repeat (first | refine g_endt ?_ | refine g_end ?_ | refine g_then ?_ | refine g_in_normal ?_ | refine g_then_ret ?_ | refine g_in_ret ?_ | refine g_then_exit ?_ | refine g_in_exit rfl ?_ | refine g_in_exit_ne (by decide) ?_ | refine g_seq ?_ | refine g_region ?_ | refine g_block ?_ | refine g_ret ?_ | refine g_return_n ?_ | refine g_exit ?_ | refine g_skip ?_)
  refine o_move ?_
  refine o_call (Within_spec n0 80 (by omega) (by omega)) rfl rfl ?_
  rintro _ _ ⟨rfl, rfl⟩
  refine o_assign ?_
  first | refine g_endt ?_ | refine g_end ?_
  obtain ⟨n, hn⟩ : ∃ n : Nat, (n0 % ((80 : Nat) : Int)).toNat = n := ⟨_, rfl⟩
  have hn80 : n < 80 := by
    have h0 : 0 ≤ n0 % ((80 : Nat) : Int) := Int.emod_nonneg _ (by omega)
    have h1 : n0 % ((80 : Nat) : Int) < ((80 : Nat) : Int) := Int.emod_lt_of_pos _ (by omega)
    omega
  rw [hn]
  repeat (first | refine g_endt ?_ | refine g_end ?_ | refine g_then ?_ | refine g_in_normal ?_ | refine g_then_ret ?_ | refine g_in_ret ?_ | refine g_then_exit ?_ | refine g_in_exit rfl ?_ | refine g_in_exit_ne (by decide) ?_ | refine g_seq ?_ | refine g_region ?_ | refine g_block ?_ | refine g_ret ?_ | refine g_return_n ?_ | refine g_exit ?_ | refine g_skip ?_)
  refine o_assign ?_
  first | refine g_endt ?_ | refine g_end ?_
  repeat (first | refine g_endt ?_ | refine g_end ?_ | refine g_then ?_ | refine g_in_normal ?_ | refine g_then_ret ?_ | refine g_in_ret ?_ | refine g_then_exit ?_ | refine g_in_exit rfl ?_ | refine g_in_exit_ne (by decide) ?_ | refine g_seq ?_ | refine g_region ?_ | refine g_block ?_ | refine g_ret ?_ | refine g_return_n ?_ | refine g_exit ?_ | refine g_skip ?_)
  refine g_loop (σ := {k : Nat // k ≤ n}) (S := fun k => [(0, .int .i64 (n : Int)), (1, .int .i64 o0), (5, .pointer (some ⟨ia, 0, none⟩)), (6, .int .i64 (k.1 : Int))]) (H := fun k => [InA ia (roomE k.1)]) (μ := fun k => n - k.1)
    (s0 := ⟨0, Nat.zero_le _⟩) (Sat.mem ⟨rfl, rfl, rfl, rfl, trivial⟩) (t := (inferInstance : Take _ [InA ia []] _)) ?_
  rintro ⟨k, hk⟩ ρ'
  dsimp only at hk ⊢
  repeat (first | refine g_endt ?_ | refine g_end ?_ | refine g_then ?_ | refine g_in_normal ?_ | refine g_then_ret ?_ | refine g_in_ret ?_ | refine g_then_exit ?_ | refine g_in_exit rfl ?_ | refine g_in_exit_ne (by decide) ?_ | refine g_seq ?_ | refine g_region ?_ | refine g_block ?_ | refine g_ret ?_ | refine g_return_n ?_ | refine g_exit ?_ | refine g_skip ?_)
  refine o_move ?_
  refine o_move ?_
  refine o_lss rfl rfl ?_
  first | refine g_endt ?_ | refine g_end ?_
  by_cases hkn : k < n
  · first | refine g_seq (g_cond_t rfl (by first | rfl | (simp; done) | (simp; omega) | (simp; assumption)) ?_) | refine g_cond_t rfl (by first | rfl | (simp; done) | (simp; omega) | (simp; assumption)) ?_
    repeat (first | refine g_endt ?_ | refine g_end ?_ | refine g_then ?_ | refine g_in_normal ?_ | refine g_then_ret ?_ | refine g_in_ret ?_ | refine g_then_exit ?_ | refine g_in_exit rfl ?_ | refine g_in_exit_ne (by decide) ?_ | refine g_seq ?_ | refine g_region ?_ | refine g_block ?_ | refine g_ret ?_ | refine g_return_n ?_ | refine g_exit ?_ | refine g_skip ?_)
    refine o_move ?_
    refine o_move ?_
    refine o_call (N_spec (k : Int)) rfl rfl ?_
    rintro _ _ ⟨rfl, rfl⟩
    refine o_call (E_spec 1 ⟨#[120]⟩ (symN (k : Int))) rfl rfl ?_
    rintro _ _ ⟨rfl, rfl⟩
    refine o_call (AddK_spec ia k (by omega)) rfl rfl ?_
    rintro _ _ ⟨rfl, rfl⟩
    refine o_assign ?_
    first | refine g_endt ?_ | refine g_end ?_
    by_cases h64 : k < 64
    · have e1 : decide ((k : Int) < 64) = true := decide_eq_true (by omega)
      rw [if_pos h64]
      repeat (first | refine g_endt ?_ | refine g_end ?_ | refine g_then ?_ | refine g_in_normal ?_ | refine g_then_ret ?_ | refine g_in_ret ?_ | refine g_then_exit ?_ | refine g_in_exit rfl ?_ | refine g_in_exit_ne (by decide) ?_ | refine g_seq ?_ | refine g_region ?_ | refine g_block ?_ | refine g_ret ?_ | refine g_return_n ?_ | refine g_exit ?_ | refine g_skip ?_)
      refine o_move ?_
      refine o_eql rfl rfl ?_
      refine o_move ?_
      refine o_lss rfl rfl ?_
      rw [e1]
      refine o_neqty rfl rfl (eq_bool _ _) ?_
      refine o_move ?_
      first | (refine o_want rfl rfl rfl rfl rfl ?_; refine o_move ?_) | refine o_unwanted rfl rfl rfl rfl rfl ?_ | refine o_undef rfl rfl rfl ?_
      first | (refine o_want rfl rfl rfl rfl rfl ?_; refine o_neq rfl rfl ?_) | refine o_unwanted rfl rfl rfl rfl rfl ?_ | refine o_undef rfl rfl rfl ?_
      first | (refine o_want rfl rfl rfl rfl rfl ?_; refine o_move ?_) | refine o_unwanted rfl rfl rfl rfl rfl ?_ | refine o_undef rfl rfl rfl ?_
      first | (refine o_want rfl rfl rfl rfl rfl ?_; refine o_move ?_) | refine o_unwanted rfl rfl rfl rfl rfl ?_ | refine o_undef rfl rfl rfl ?_
      first | (refine o_want rfl rfl rfl rfl rfl ?_; refine o_neq rfl rfl ?_) | refine o_unwanted rfl rfl rfl rfl rfl ?_ | refine o_undef rfl rfl rfl ?_
      first | (refine o_want rfl rfl rfl rfl rfl ?_; (first | refine o_pick_t rfl rfl ?_ | refine o_pick_f rfl rfl ?_)) | refine o_unwanted rfl rfl rfl rfl rfl ?_ | refine o_undef rfl rfl rfl ?_
      first | refine o_pick_t rfl rfl ?_ | refine o_pick_f rfl rfl ?_
      first | refine g_endt ?_ | refine g_end ?_
      first | refine g_seq (g_cond_f rfl (by first | rfl | (simp; done) | (simp; omega) | (simp; assumption)) ?_) | refine g_cond_f rfl (by first | rfl | (simp; done) | (simp; omega) | (simp; assumption)) ?_
      repeat (first | refine g_endt ?_ | refine g_end ?_ | refine g_then ?_ | refine g_in_normal ?_ | refine g_then_ret ?_ | refine g_in_ret ?_ | refine g_then_exit ?_ | refine g_in_exit rfl ?_ | refine g_in_exit_ne (by decide) ?_ | refine g_seq ?_ | refine g_region ?_ | refine g_block ?_ | refine g_ret ?_ | refine g_return_n ?_ | refine g_exit ?_ | refine g_skip ?_)
      refine o_move ?_
      refine o_add (c := ((k + 1 : Nat) : Int)) rfl rfl (by omega) (by omega) (by omega) ?_
      refine o_assign ?_
      first | refine g_endt ?_ | refine g_end ?_
      repeat (first | refine g_endt ?_ | refine g_end ?_ | refine g_then ?_ | refine g_in_normal ?_ | refine g_then_ret ?_ | refine g_in_ret ?_ | refine g_then_exit ?_ | refine g_in_exit rfl ?_ | refine g_in_exit_ne (by decide) ?_ | refine g_seq ?_ | refine g_region ?_ | refine g_block ?_ | refine g_ret ?_ | refine g_return_n ?_ | refine g_exit ?_ | refine g_skip ?_)
      exact g_meets (⟨k + 1, hkn⟩) (by first | exact trivial | (dsimp only; omega)) (Sat.mem (by repeat (first | exact trivial | refine And.intro rfl ?_)))
    · have e1 : decide ((k : Int) < 64) = false := decide_eq_false (by omega)
      rw [if_neg h64]
      repeat (first | refine g_endt ?_ | refine g_end ?_ | refine g_then ?_ | refine g_in_normal ?_ | refine g_then_ret ?_ | refine g_in_ret ?_ | refine g_then_exit ?_ | refine g_in_exit rfl ?_ | refine g_in_exit_ne (by decide) ?_ | refine g_seq ?_ | refine g_region ?_ | refine g_block ?_ | refine g_ret ?_ | refine g_return_n ?_ | refine g_exit ?_ | refine g_skip ?_)
      refine o_move ?_
      refine o_eql rfl rfl ?_
      refine o_move ?_
      refine o_lss rfl rfl ?_
      rw [e1]
      refine o_neqty rfl rfl (eq_bool _ _) ?_
      refine o_move ?_
      first | (refine o_want rfl rfl rfl rfl rfl ?_; refine o_move ?_) | refine o_unwanted rfl rfl rfl rfl rfl ?_ | refine o_undef rfl rfl rfl ?_
      first | (refine o_want rfl rfl rfl rfl rfl ?_; refine o_neq rfl rfl ?_) | refine o_unwanted rfl rfl rfl rfl rfl ?_ | refine o_undef rfl rfl rfl ?_
      first | (refine o_want rfl rfl rfl rfl rfl ?_; refine o_move ?_) | refine o_unwanted rfl rfl rfl rfl rfl ?_ | refine o_undef rfl rfl rfl ?_
      first | (refine o_want rfl rfl rfl rfl rfl ?_; refine o_move ?_) | refine o_unwanted rfl rfl rfl rfl rfl ?_ | refine o_undef rfl rfl rfl ?_
      first | (refine o_want rfl rfl rfl rfl rfl ?_; refine o_neq rfl rfl ?_) | refine o_unwanted rfl rfl rfl rfl rfl ?_ | refine o_undef rfl rfl rfl ?_
      first | (refine o_want rfl rfl rfl rfl rfl ?_; (first | refine o_pick_t rfl rfl ?_ | refine o_pick_f rfl rfl ?_)) | refine o_unwanted rfl rfl rfl rfl rfl ?_ | refine o_undef rfl rfl rfl ?_
      first | refine o_pick_t rfl rfl ?_ | refine o_pick_f rfl rfl ?_
      first | refine g_endt ?_ | refine g_end ?_
      first | refine g_seq (g_cond_f rfl (by first | rfl | (simp; done) | (simp; omega) | (simp; assumption)) ?_) | refine g_cond_f rfl (by first | rfl | (simp; done) | (simp; omega) | (simp; assumption)) ?_
      repeat (first | refine g_endt ?_ | refine g_end ?_ | refine g_then ?_ | refine g_in_normal ?_ | refine g_then_ret ?_ | refine g_in_ret ?_ | refine g_then_exit ?_ | refine g_in_exit rfl ?_ | refine g_in_exit_ne (by decide) ?_ | refine g_seq ?_ | refine g_region ?_ | refine g_block ?_ | refine g_ret ?_ | refine g_return_n ?_ | refine g_exit ?_ | refine g_skip ?_)
      refine o_move ?_
      refine o_add (c := ((k + 1 : Nat) : Int)) rfl rfl (by omega) (by omega) (by omega) ?_
      refine o_assign ?_
      first | refine g_endt ?_ | refine g_end ?_
      repeat (first | refine g_endt ?_ | refine g_end ?_ | refine g_then ?_ | refine g_in_normal ?_ | refine g_then_ret ?_ | refine g_in_ret ?_ | refine g_then_exit ?_ | refine g_in_exit rfl ?_ | refine g_in_exit_ne (by decide) ?_ | refine g_seq ?_ | refine g_region ?_ | refine g_block ?_ | refine g_ret ?_ | refine g_return_n ?_ | refine g_exit ?_ | refine g_skip ?_)
      exact g_meets (⟨k + 1, hkn⟩) (by first | exact trivial | (dsimp only; omega)) (Sat.mem (by repeat (first | exact trivial | refine And.intro rfl ?_)))
  first | refine g_seq (g_cond_f rfl (by simp; omega) ?_) | refine g_cond_f rfl (by simp; omega) ?_
  have hkk : k = n := by omega
  subst hkk
  have hlen := roomE_len k
  repeat (first | refine g_endt ?_ | refine g_end ?_ | refine g_then ?_ | refine g_in_normal ?_ | refine g_then_ret ?_ | refine g_in_ret ?_ | refine g_then_exit ?_ | refine g_in_exit rfl ?_ | refine g_in_exit_ne (by decide) ?_ | refine g_seq ?_ | refine g_region ?_ | refine g_block ?_ | refine g_ret ?_ | refine g_return_n ?_ | refine g_exit ?_ | refine g_skip ?_)
  refine o_move ?_
  refine o_call (linkLen_spec ia (roomE k)) rfl rfl ?_
  rintro _ _ ⟨rfl, rfl⟩
  refine o_move ?_
  refine o_min rfl rfl ?_
  refine o_neq rfl rfl ?_
  first | refine g_endt ?_ | refine g_end ?_
  first | refine g_seq (g_cond_f rfl (by rw [hlen]; simp; omega) ?_) | refine g_cond_f rfl (by rw [hlen]; simp; omega) ?_
  repeat (first | refine g_endt ?_ | refine g_end ?_ | refine g_then ?_ | refine g_in_normal ?_ | refine g_then_ret ?_ | refine g_in_ret ?_ | refine g_then_exit ?_ | refine g_in_exit rfl ?_ | refine g_in_exit_ne (by decide) ?_ | refine g_seq ?_ | refine g_region ?_ | refine g_block ?_ | refine g_ret ?_ | refine g_return_n ?_ | refine g_exit ?_ | refine g_skip ?_)
  refine o_move ?_
  refine o_call (Within_spec o0 100 (by omega) (by omega)) rfl rfl ?_
  rintro _ _ ⟨rfl, rfl⟩
  refine o_assign ?_
  first | refine g_endt ?_ | refine g_end ?_
  obtain ⟨j, hj⟩ : ∃ j : Nat, (o0 % ((100 : Nat) : Int)).toNat = j := ⟨_, rfl⟩
  rw [hj]
  repeat (first | refine g_endt ?_ | refine g_end ?_ | refine g_then ?_ | refine g_in_normal ?_ | refine g_then_ret ?_ | refine g_in_ret ?_ | refine g_then_exit ?_ | refine g_in_exit rfl ?_ | refine g_in_exit_ne (by decide) ?_ | refine g_seq ?_ | refine g_region ?_ | refine g_block ?_ | refine g_ret ?_ | refine g_return_n ?_ | refine g_exit ?_ | refine g_skip ?_)
  refine o_move ?_
  refine o_move ?_
  refine o_call (N_spec (j : Int)) rfl rfl ?_
  rintro _ _ ⟨rfl, rfl⟩
  refine o_call (E_spec 1 ⟨#[120]⟩ (symN (j : Int))) rfl rfl ?_
  rintro _ _ ⟨rfl, rfl⟩
  refine o_call (DropK_spec ia k j) rfl rfl ?_
  rintro _ _ ⟨rfl, rfl⟩
  refine o_assign ?_
  first | refine g_endt ?_ | refine g_end ?_
  by_cases hjd : j < min k 64
  · have e1 : decide ((j : Int) < min (k : Int) 64) = true := decide_eq_true (by omega)
    rw [if_pos hjd]
    repeat (first | refine g_endt ?_ | refine g_end ?_ | refine g_then ?_ | refine g_in_normal ?_ | refine g_then_ret ?_ | refine g_in_ret ?_ | refine g_then_exit ?_ | refine g_in_exit rfl ?_ | refine g_in_exit_ne (by decide) ?_ | refine g_seq ?_ | refine g_region ?_ | refine g_block ?_ | refine g_ret ?_ | refine g_return_n ?_ | refine g_exit ?_ | refine g_skip ?_)
    refine o_move ?_
    refine o_eql rfl rfl ?_
    refine o_move ?_
    refine o_move ?_
    refine o_min rfl rfl ?_
    refine o_lss rfl rfl ?_
    rw [e1]
    refine o_neqty rfl rfl (eq_bool _ _) ?_
    refine o_move ?_
    first | (refine o_want rfl rfl rfl rfl rfl ?_; refine o_move ?_) | refine o_unwanted rfl rfl rfl rfl rfl ?_ | refine o_undef rfl rfl rfl ?_
    first | (refine o_want rfl rfl rfl rfl rfl ?_; refine o_neq rfl rfl ?_) | refine o_unwanted rfl rfl rfl rfl rfl ?_ | refine o_undef rfl rfl rfl ?_
    first | (refine o_want rfl rfl rfl rfl rfl ?_; refine o_move ?_) | refine o_unwanted rfl rfl rfl rfl rfl ?_ | refine o_undef rfl rfl rfl ?_
    first | (refine o_want rfl rfl rfl rfl rfl ?_; refine o_move ?_) | refine o_unwanted rfl rfl rfl rfl rfl ?_ | refine o_undef rfl rfl rfl ?_
    first | (refine o_want rfl rfl rfl rfl rfl ?_; refine o_neq rfl rfl ?_) | refine o_unwanted rfl rfl rfl rfl rfl ?_ | refine o_undef rfl rfl rfl ?_
    first | (refine o_want rfl rfl rfl rfl rfl ?_; (first | refine o_pick_t rfl rfl ?_ | refine o_pick_f rfl rfl ?_)) | refine o_unwanted rfl rfl rfl rfl rfl ?_ | refine o_undef rfl rfl rfl ?_
    first | refine o_pick_t rfl rfl ?_ | refine o_pick_f rfl rfl ?_
    first | refine g_endt ?_ | refine g_end ?_
    first | refine g_seq (g_cond_f rfl (by first | rfl | (simp; done) | (simp; omega) | (simp; assumption)) ?_) | refine g_cond_f rfl (by first | rfl | (simp; done) | (simp; omega) | (simp; assumption)) ?_
    repeat (first | refine g_endt ?_ | refine g_end ?_ | refine g_then ?_ | refine g_in_normal ?_ | refine g_then_ret ?_ | refine g_in_ret ?_ | refine g_then_exit ?_ | refine g_in_exit rfl ?_ | refine g_in_exit_ne (by decide) ?_ | refine g_seq ?_ | refine g_region ?_ | refine g_block ?_ | refine g_ret ?_ | refine g_return_n ?_ | refine g_exit ?_ | refine g_skip ?_)
    refine o_move ?_
    refine o_call (N_spec 1) rfl rfl ?_
    rintro _ _ ⟨rfl, rfl⟩
    refine o_call (E_spec 2 ⟨#[120]⟩ (symN 1)) rfl rfl ?_
    rintro _ _ ⟨rfl, rfl⟩
    refine o_call (AddZ_spec ia k j) rfl rfl ?_
    rintro _ _ ⟨rfl, zs, rfl⟩
    refine o_assign ?_
    first | refine g_endt ?_ | refine g_end ?_
    rw [if_pos (.inr hjd)]
    by_cases hk64 : k < 64
    · have e2 : decide ((k : Int) < 64) = true := decide_eq_true (by omega)
      repeat (first | refine g_endt ?_ | refine g_end ?_ | refine g_then ?_ | refine g_in_normal ?_ | refine g_then_ret ?_ | refine g_in_ret ?_ | refine g_then_exit ?_ | refine g_in_exit rfl ?_ | refine g_in_exit_ne (by decide) ?_ | refine g_seq ?_ | refine g_region ?_ | refine g_block ?_ | refine g_ret ?_ | refine g_return_n ?_ | refine g_exit ?_ | refine g_skip ?_)
      refine o_move ?_
      refine o_eql rfl rfl ?_
      refine o_move ?_
      refine o_lss rfl rfl ?_
      rw [e2]
      refine o_move ?_
      first | (refine o_want rfl rfl rfl rfl rfl ?_; refine o_move ?_) | refine o_unwanted rfl rfl rfl rfl rfl ?_ | refine o_undef rfl rfl rfl ?_
      first | (refine o_want rfl rfl rfl rfl rfl ?_; refine o_eql rfl rfl ?_) | refine o_unwanted rfl rfl rfl rfl rfl ?_ | refine o_undef rfl rfl rfl ?_
      first | refine o_pick_t rfl rfl ?_ | refine o_pick_f rfl rfl ?_
      refine o_eqty rfl rfl (eq_bool _ _) ?_
      refine o_move ?_
      refine o_want rfl rfl rfl rfl rfl (o_call (wakes26_spec) rfl rfl ?_)
      rintro _ _ ⟨rfl, rfl⟩
      first | refine o_pick_t rfl rfl ?_ | refine o_pick_f rfl rfl ?_
      refine o_assign ?_
      first | refine g_endt ?_ | refine g_end ?_
      repeat (first | refine g_endt ?_ | refine g_end ?_ | refine g_then ?_ | refine g_in_normal ?_ | refine g_then_ret ?_ | refine g_in_ret ?_ | refine g_then_exit ?_ | refine g_in_exit rfl ?_ | refine g_in_exit_ne (by decide) ?_ | refine g_seq ?_ | refine g_region ?_ | refine g_block ?_ | refine g_ret ?_ | refine g_return_n ?_ | refine g_exit ?_ | refine g_skip ?_)
      exact ret1 (K := []) rfl (resT (v := .bool true) rfl) ⟨rfl, rfl⟩
    · have e2 : decide ((k : Int) < 64) = false := decide_eq_false (by omega)
      repeat (first | refine g_endt ?_ | refine g_end ?_ | refine g_then ?_ | refine g_in_normal ?_ | refine g_then_ret ?_ | refine g_in_ret ?_ | refine g_then_exit ?_ | refine g_in_exit rfl ?_ | refine g_in_exit_ne (by decide) ?_ | refine g_seq ?_ | refine g_region ?_ | refine g_block ?_ | refine g_ret ?_ | refine g_return_n ?_ | refine g_exit ?_ | refine g_skip ?_)
      refine o_move ?_
      refine o_eql rfl rfl ?_
      refine o_move ?_
      refine o_lss rfl rfl ?_
      rw [e2]
      refine o_move ?_
      first | (refine o_want rfl rfl rfl rfl rfl ?_; refine o_move ?_) | refine o_unwanted rfl rfl rfl rfl rfl ?_ | refine o_undef rfl rfl rfl ?_
      first | (refine o_want rfl rfl rfl rfl rfl ?_; refine o_eql rfl rfl ?_) | refine o_unwanted rfl rfl rfl rfl rfl ?_ | refine o_undef rfl rfl rfl ?_
      first | refine o_pick_t rfl rfl ?_ | refine o_pick_f rfl rfl ?_
      refine o_eqty rfl rfl (eq_bool _ _) ?_
      refine o_move ?_
      refine o_want rfl rfl rfl rfl rfl (o_call (wakes26_spec) rfl rfl ?_)
      rintro _ _ ⟨rfl, rfl⟩
      first | refine o_pick_t rfl rfl ?_ | refine o_pick_f rfl rfl ?_
      refine o_assign ?_
      first | refine g_endt ?_ | refine g_end ?_
      repeat (first | refine g_endt ?_ | refine g_end ?_ | refine g_then ?_ | refine g_in_normal ?_ | refine g_then_ret ?_ | refine g_in_ret ?_ | refine g_then_exit ?_ | refine g_in_exit rfl ?_ | refine g_in_exit_ne (by decide) ?_ | refine g_seq ?_ | refine g_region ?_ | refine g_block ?_ | refine g_ret ?_ | refine g_return_n ?_ | refine g_exit ?_ | refine g_skip ?_)
      exact ret1 (K := []) rfl (resT (v := .bool true) rfl) ⟨rfl, rfl⟩
  · have e1 : decide ((j : Int) < min (k : Int) 64) = false := decide_eq_false (by omega)
    rw [if_neg hjd]
    repeat (first | refine g_endt ?_ | refine g_end ?_ | refine g_then ?_ | refine g_in_normal ?_ | refine g_then_ret ?_ | refine g_in_ret ?_ | refine g_then_exit ?_ | refine g_in_exit rfl ?_ | refine g_in_exit_ne (by decide) ?_ | refine g_seq ?_ | refine g_region ?_ | refine g_block ?_ | refine g_ret ?_ | refine g_return_n ?_ | refine g_exit ?_ | refine g_skip ?_)
    refine o_move ?_
    refine o_eql rfl rfl ?_
    refine o_move ?_
    refine o_move ?_
    refine o_min rfl rfl ?_
    refine o_lss rfl rfl ?_
    rw [e1]
    refine o_neqty rfl rfl (eq_bool _ _) ?_
    refine o_move ?_
    first | (refine o_want rfl rfl rfl rfl rfl ?_; refine o_move ?_) | refine o_unwanted rfl rfl rfl rfl rfl ?_ | refine o_undef rfl rfl rfl ?_
    first | (refine o_want rfl rfl rfl rfl rfl ?_; refine o_neq rfl rfl ?_) | refine o_unwanted rfl rfl rfl rfl rfl ?_ | refine o_undef rfl rfl rfl ?_
    first | (refine o_want rfl rfl rfl rfl rfl ?_; refine o_move ?_) | refine o_unwanted rfl rfl rfl rfl rfl ?_ | refine o_undef rfl rfl rfl ?_
    first | (refine o_want rfl rfl rfl rfl rfl ?_; refine o_move ?_) | refine o_unwanted rfl rfl rfl rfl rfl ?_ | refine o_undef rfl rfl rfl ?_
    first | (refine o_want rfl rfl rfl rfl rfl ?_; refine o_neq rfl rfl ?_) | refine o_unwanted rfl rfl rfl rfl rfl ?_ | refine o_undef rfl rfl rfl ?_
    first | (refine o_want rfl rfl rfl rfl rfl ?_; (first | refine o_pick_t rfl rfl ?_ | refine o_pick_f rfl rfl ?_)) | refine o_unwanted rfl rfl rfl rfl rfl ?_ | refine o_undef rfl rfl rfl ?_
    first | refine o_pick_t rfl rfl ?_ | refine o_pick_f rfl rfl ?_
    first | refine g_endt ?_ | refine g_end ?_
    first | refine g_seq (g_cond_f rfl (by first | rfl | (simp; done) | (simp; omega) | (simp; assumption)) ?_) | refine g_cond_f rfl (by first | rfl | (simp; done) | (simp; omega) | (simp; assumption)) ?_
    repeat (first | refine g_endt ?_ | refine g_end ?_ | refine g_then ?_ | refine g_in_normal ?_ | refine g_then_ret ?_ | refine g_in_ret ?_ | refine g_then_exit ?_ | refine g_in_exit rfl ?_ | refine g_in_exit_ne (by decide) ?_ | refine g_seq ?_ | refine g_region ?_ | refine g_block ?_ | refine g_ret ?_ | refine g_return_n ?_ | refine g_exit ?_ | refine g_skip ?_)
    refine o_move ?_
    refine o_call (N_spec 1) rfl rfl ?_
    rintro _ _ ⟨rfl, rfl⟩
    refine o_call (E_spec 2 ⟨#[120]⟩ (symN 1)) rfl rfl ?_
    rintro _ _ ⟨rfl, rfl⟩
    refine o_call (AddZ_spec ia k j) rfl rfl ?_
    rintro _ _ ⟨rfl, zs, rfl⟩
    refine o_assign ?_
    first | refine g_endt ?_ | refine g_end ?_
    by_cases hk64 : k < 64
    · have e2 : decide ((k : Int) < 64) = true := decide_eq_true (by omega)
      rw [if_pos (.inl hk64)]
      repeat (first | refine g_endt ?_ | refine g_end ?_ | refine g_then ?_ | refine g_in_normal ?_ | refine g_then_ret ?_ | refine g_in_ret ?_ | refine g_then_exit ?_ | refine g_in_exit rfl ?_ | refine g_in_exit_ne (by decide) ?_ | refine g_seq ?_ | refine g_region ?_ | refine g_block ?_ | refine g_ret ?_ | refine g_return_n ?_ | refine g_exit ?_ | refine g_skip ?_)
      refine o_move ?_
      refine o_eql rfl rfl ?_
      refine o_move ?_
      refine o_lss rfl rfl ?_
      rw [e2]
      refine o_move ?_
      first | (refine o_want rfl rfl rfl rfl rfl ?_; refine o_move ?_) | refine o_unwanted rfl rfl rfl rfl rfl ?_ | refine o_undef rfl rfl rfl ?_
      first | (refine o_want rfl rfl rfl rfl rfl ?_; refine o_eql rfl rfl ?_) | refine o_unwanted rfl rfl rfl rfl rfl ?_ | refine o_undef rfl rfl rfl ?_
      first | refine o_pick_t rfl rfl ?_ | refine o_pick_f rfl rfl ?_
      refine o_eqty rfl rfl (eq_bool _ _) ?_
      refine o_move ?_
      refine o_want rfl rfl rfl rfl rfl (o_call (wakes26_spec) rfl rfl ?_)
      rintro _ _ ⟨rfl, rfl⟩
      first | refine o_pick_t rfl rfl ?_ | refine o_pick_f rfl rfl ?_
      refine o_assign ?_
      first | refine g_endt ?_ | refine g_end ?_
      repeat (first | refine g_endt ?_ | refine g_end ?_ | refine g_then ?_ | refine g_in_normal ?_ | refine g_then_ret ?_ | refine g_in_ret ?_ | refine g_then_exit ?_ | refine g_in_exit rfl ?_ | refine g_in_exit_ne (by decide) ?_ | refine g_seq ?_ | refine g_region ?_ | refine g_block ?_ | refine g_ret ?_ | refine g_return_n ?_ | refine g_exit ?_ | refine g_skip ?_)
      exact ret1 (K := []) rfl (resT (v := .bool true) rfl) ⟨rfl, rfl⟩
    · have e2 : decide ((k : Int) < 64) = false := decide_eq_false (by omega)
      rw [if_neg (by omega)]
      repeat (first | refine g_endt ?_ | refine g_end ?_ | refine g_then ?_ | refine g_in_normal ?_ | refine g_then_ret ?_ | refine g_in_ret ?_ | refine g_then_exit ?_ | refine g_in_exit rfl ?_ | refine g_in_exit_ne (by decide) ?_ | refine g_seq ?_ | refine g_region ?_ | refine g_block ?_ | refine g_ret ?_ | refine g_return_n ?_ | refine g_exit ?_ | refine g_skip ?_)
      refine o_move ?_
      refine o_eql rfl rfl ?_
      refine o_move ?_
      refine o_lss rfl rfl ?_
      rw [e2]
      refine o_move ?_
      first | (refine o_want rfl rfl rfl rfl rfl ?_; refine o_move ?_) | refine o_unwanted rfl rfl rfl rfl rfl ?_ | refine o_undef rfl rfl rfl ?_
      first | (refine o_want rfl rfl rfl rfl rfl ?_; refine o_eql rfl rfl ?_) | refine o_unwanted rfl rfl rfl rfl rfl ?_ | refine o_undef rfl rfl rfl ?_
      first | refine o_pick_t rfl rfl ?_ | refine o_pick_f rfl rfl ?_
      refine o_eqty rfl rfl (eq_bool _ _) ?_
      refine o_move ?_
      refine o_want rfl rfl rfl rfl rfl (o_call (wakes26_spec) rfl rfl ?_)
      rintro _ _ ⟨rfl, rfl⟩
      first | refine o_pick_t rfl rfl ?_ | refine o_pick_f rfl rfl ?_
      refine o_assign ?_
      first | refine g_endt ?_ | refine g_end ?_
      repeat (first | refine g_endt ?_ | refine g_end ?_ | refine g_then ?_ | refine g_in_normal ?_ | refine g_then_ret ?_ | refine g_in_ret ?_ | refine g_then_exit ?_ | refine g_in_exit rfl ?_ | refine g_in_exit_ne (by decide) ?_ | refine g_seq ?_ | refine g_region ?_ | refine g_block ?_ | refine g_ret ?_ | refine g_return_n ?_ | refine g_exit ?_ | refine g_skip ?_)
      exact ret1 (K := []) rfl (resT (v := .bool true) rfl) ⟨rfl, rfl⟩
end Go.Proofs.Ytonjhakjnopbjaa
