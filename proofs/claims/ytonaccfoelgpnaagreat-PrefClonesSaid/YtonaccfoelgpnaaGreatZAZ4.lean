/- Parts of a proof, in order. -/
import Derived.Test.YtonaccfoelgpnaaGreatZAZ3

set_option linter.unusedSimpArgs false
set_option linter.unusedVariables false
/- Preference memory: made, how many, added to. -/
namespace Go.Proofs.YtonaccfoelgpnaaGreat
open Go Go.Sl
attribute [local irreducible] Exit.then Exit.inBlock Code.wpIn roundPost bodyPostM runL Ret Meets MeetsD Begin

def outP (ps l : List PrefD) : List PrefD := (ps.filter fun q => !l.any fun p => takesP p q) ++ l.filter fun p => !rejP p
def addR (room : Int) (ps l : List PrefD) : Int × List PrefD := if l.all validP then (if room < ((outP ps l).length : Int) then (21, ps) else (0, outP ps l)) else (9, ps)
theorem addR_bad {room : Int} {ps l : List PrefD} (h : l.all validP = false) : addR room ps l = (9, ps) := by unfold addR; rw [if_neg (by rw [h]; decide)]
theorem addR_full {room : Int} {ps l : List PrefD} (h : l.all validP = true) (h2 : room < ((outP ps l).length : Int)) : addR room ps l = (21, ps) := by unfold addR; rw [if_pos h, if_pos h2]
theorem addR_ok {room : Int} {ps l : List PrefD} (h : l.all validP = true) (h2 : ¬ room < ((outP ps l).length : Int)) : addR room ps l = (0, outP ps l) := by unfold addR; rw [if_pos h, if_neg h2]
theorem filter_take {α : Type} (p : α → Bool) {l : List α} {i : Nat} {x : α} (h : l[i]? = some x) : (l.take (i + 1)).filter p = (l.take i).filter p ++ if p x then [x] else [] := by
  rw [List.take_add_one, h, List.filter_append]
  cases e : p x <;> simp [e]
theorem any_take {α : Type} (p : α → Bool) {l : List α} {i : Nat} {x : α} (h : l[i]? = some x) : (l.take (i + 1)).any p = ((l.take i).any p || p x) := by
  rw [List.take_add_one, h, List.any_append]; simp
theorem New17_spec (room : Int) : Ctr Tryz.prog 5 [.int .i64 room] [] (fun v M => (room < 1 ∨ 2048 < room) ∧ v = .tuple #[.pointer none, .int .i64 1] ∧ M = [] ∨ ¬ (room < 1 ∨ 2048 < room) ∧ ∃ m, v = .tuple #[.pointer (some ⟨m, 0, none⟩), .int .i64 0] ∧ M = [MemP m room []]) := by
  refine spec_of Tryz.func5 rfl Tryz.ntmps5 rfl fun w0 F => ?_
  -- hide
  -- ponder/pref.New
  repeat (first | refine g_endt ?_ | refine g_end ?_ | refine g_then ?_ | refine g_in_normal ?_ | refine g_then_ret ?_ | refine g_in_ret ?_ | refine g_then_exit ?_ | refine g_in_exit rfl ?_ | refine g_in_exit_ne (by decide) ?_ | refine g_seq ?_ | refine g_region ?_ | refine g_block ?_ | refine g_ret ?_ | refine g_return_n ?_ | refine g_exit ?_ | refine g_skip ?_)
  refine g_hideR fun Q_ hQ_ => ?_
  refine o_assign ?_
  refine o_assign ?_
  refine g_end (G.imp (hQ_ .normal _) ?_)
  clear hQ_ Q_
  try refine g_then ?_
  by_cases h1 : room < 1
  · skip
    repeat (first | refine g_endt ?_ | refine g_end ?_ | refine g_then ?_ | refine g_in_normal ?_ | refine g_then_ret ?_ | refine g_in_ret ?_ | refine g_then_exit ?_ | refine g_in_exit rfl ?_ | refine g_in_exit_ne (by decide) ?_ | refine g_seq ?_ | refine g_region ?_ | refine g_block ?_ | refine g_ret ?_ | refine g_return_n ?_ | refine g_exit ?_ | refine g_skip ?_)
    refine g_hideR fun Q_ hQ_ => ?_
    refine o_move ?_
    refine o_lss rfl rfl ?_
    rw [decide_eq_true h1]
    refine o_move ?_
    first | (refine o_want rfl rfl rfl rfl rfl ?_; refine o_move ?_) | refine o_unwanted rfl rfl rfl rfl rfl ?_ | refine o_undef rfl rfl rfl ?_
    first | (refine o_want rfl rfl rfl rfl rfl ?_; refine o_gtr rfl rfl ?_) | refine o_unwanted rfl rfl rfl rfl rfl ?_ | refine o_undef rfl rfl rfl ?_
    first | refine o_pick_t rfl rfl ?_ | refine o_pick_f rfl rfl ?_
    refine g_end (G.imp (hQ_ .normal _) ?_)
    clear hQ_ Q_
    try refine g_then ?_
    first | refine g_seq (g_cond_t rfl (by first | rfl | (simp; done) | (simp; omega) | (simp; assumption)) ?_) | refine g_cond_t rfl (by first | rfl | (simp; done) | (simp; omega) | (simp; assumption)) ?_
    repeat (first | refine g_endt ?_ | refine g_end ?_ | refine g_then ?_ | refine g_in_normal ?_ | refine g_then_ret ?_ | refine g_in_ret ?_ | refine g_then_exit ?_ | refine g_in_exit rfl ?_ | refine g_in_exit_ne (by decide) ?_ | refine g_seq ?_ | refine g_region ?_ | refine g_block ?_ | refine g_ret ?_ | refine g_return_n ?_ | refine g_exit ?_ | refine g_skip ?_)
    refine g_hideR fun Q_ hQ_ => ?_
    refine o_assign ?_
    refine o_assign ?_
    refine g_end (G.imp (hQ_ .normal _) ?_)
    clear hQ_ Q_
    try refine g_then ?_
    repeat (first | refine g_endt ?_ | refine g_end ?_ | refine g_then ?_ | refine g_in_normal ?_ | refine g_then_ret ?_ | refine g_in_ret ?_ | refine g_then_exit ?_ | refine g_in_exit rfl ?_ | refine g_in_exit_ne (by decide) ?_ | refine g_seq ?_ | refine g_region ?_ | refine g_block ?_ | refine g_ret ?_ | refine g_return_n ?_ | refine g_exit ?_ | refine g_skip ?_)
    exact ret2 (K := []) rfl (resT rfl) (resT rfl) (.inl ⟨.inl h1, rfl, rfl⟩)
  · by_cases h2 : 2048 < room
    · skip
      repeat (first | refine g_endt ?_ | refine g_end ?_ | refine g_then ?_ | refine g_in_normal ?_ | refine g_then_ret ?_ | refine g_in_ret ?_ | refine g_then_exit ?_ | refine g_in_exit rfl ?_ | refine g_in_exit_ne (by decide) ?_ | refine g_seq ?_ | refine g_region ?_ | refine g_block ?_ | refine g_ret ?_ | refine g_return_n ?_ | refine g_exit ?_ | refine g_skip ?_)
      refine g_hideR fun Q_ hQ_ => ?_
      refine o_move ?_
      refine o_lss rfl rfl ?_
      rw [decide_eq_false h1]
      refine o_move ?_
      first | (refine o_want rfl rfl rfl rfl rfl ?_; refine o_move ?_) | refine o_unwanted rfl rfl rfl rfl rfl ?_ | refine o_undef rfl rfl rfl ?_
      first | (refine o_want rfl rfl rfl rfl rfl ?_; refine o_gtr rfl rfl ?_) | refine o_unwanted rfl rfl rfl rfl rfl ?_ | refine o_undef rfl rfl rfl ?_
      rw [show decide (room > 2048) = true from decide_eq_true h2]
      first | refine o_pick_t rfl rfl ?_ | refine o_pick_f rfl rfl ?_
      refine g_end (G.imp (hQ_ .normal _) ?_)
      clear hQ_ Q_
      try refine g_then ?_
      first | refine g_seq (g_cond_t rfl (by first | rfl | (simp; done) | (simp; omega) | (simp; assumption)) ?_) | refine g_cond_t rfl (by first | rfl | (simp; done) | (simp; omega) | (simp; assumption)) ?_
      repeat (first | refine g_endt ?_ | refine g_end ?_ | refine g_then ?_ | refine g_in_normal ?_ | refine g_then_ret ?_ | refine g_in_ret ?_ | refine g_then_exit ?_ | refine g_in_exit rfl ?_ | refine g_in_exit_ne (by decide) ?_ | refine g_seq ?_ | refine g_region ?_ | refine g_block ?_ | refine g_ret ?_ | refine g_return_n ?_ | refine g_exit ?_ | refine g_skip ?_)
      refine g_hideR fun Q_ hQ_ => ?_
      refine o_assign ?_
      refine o_assign ?_
      refine g_end (G.imp (hQ_ .normal _) ?_)
      clear hQ_ Q_
      try refine g_then ?_
      repeat (first | refine g_endt ?_ | refine g_end ?_ | refine g_then ?_ | refine g_in_normal ?_ | refine g_then_ret ?_ | refine g_in_ret ?_ | refine g_then_exit ?_ | refine g_in_exit rfl ?_ | refine g_in_exit_ne (by decide) ?_ | refine g_seq ?_ | refine g_region ?_ | refine g_block ?_ | refine g_ret ?_ | refine g_return_n ?_ | refine g_exit ?_ | refine g_skip ?_)
      exact ret2 (K := []) rfl (resT rfl) (resT rfl) (.inl ⟨.inr h2, rfl, rfl⟩)
    · skip
      repeat (first | refine g_endt ?_ | refine g_end ?_ | refine g_then ?_ | refine g_in_normal ?_ | refine g_then_ret ?_ | refine g_in_ret ?_ | refine g_then_exit ?_ | refine g_in_exit rfl ?_ | refine g_in_exit_ne (by decide) ?_ | refine g_seq ?_ | refine g_region ?_ | refine g_block ?_ | refine g_ret ?_ | refine g_return_n ?_ | refine g_exit ?_ | refine g_skip ?_)
      refine g_hideR fun Q_ hQ_ => ?_
      refine o_move ?_
      refine o_lss rfl rfl ?_
      rw [decide_eq_false h1]
      refine o_move ?_
      first | (refine o_want rfl rfl rfl rfl rfl ?_; refine o_move ?_) | refine o_unwanted rfl rfl rfl rfl rfl ?_ | refine o_undef rfl rfl rfl ?_
      first | (refine o_want rfl rfl rfl rfl rfl ?_; refine o_gtr rfl rfl ?_) | refine o_unwanted rfl rfl rfl rfl rfl ?_ | refine o_undef rfl rfl rfl ?_
      rw [show decide (room > 2048) = false from decide_eq_false h2]
      first | refine o_pick_t rfl rfl ?_ | refine o_pick_f rfl rfl ?_
      refine g_end (G.imp (hQ_ .normal _) ?_)
      clear hQ_ Q_
      try refine g_then ?_
      first | refine g_seq (g_cond_f rfl (by first | rfl | (simp; done) | (simp; omega) | (simp; assumption)) ?_) | refine g_cond_f rfl (by first | rfl | (simp; done) | (simp; omega) | (simp; assumption)) ?_
      repeat (first | refine g_endt ?_ | refine g_end ?_ | refine g_then ?_ | refine g_in_normal ?_ | refine g_then_ret ?_ | refine g_in_ret ?_ | refine g_then_exit ?_ | refine g_in_exit rfl ?_ | refine g_in_exit_ne (by decide) ?_ | refine g_seq ?_ | refine g_region ?_ | refine g_block ?_ | refine g_ret ?_ | refine g_return_n ?_ | refine g_exit ?_ | refine g_skip ?_)
      refine g_hideR fun Q_ hQ_ => ?_
      refine o_move ?_
      refine o_call (NewMSP_spec) rfl rfl ?_
      rintro _ _ ⟨mp, rfl, rfl⟩
      refine o_build (.agg #[.int .i64 room, .slice none 0 0, .pointer (some ⟨mp, 0, none⟩)]) (fun w => by kernel_rfl) ?_
      refine o_boxc #[.int .i64 room, .slice none 0 0, .pointer (some ⟨mp, 0, none⟩)] rfl rfl fun m => ?_
      refine o_assign ?_
      refine o_assign ?_
      refine g_end (G.imp (hQ_ .normal _) ?_)
      clear hQ_ Q_
      try refine g_then ?_
      refine G.psl_nil (α := PrefD) encP 16 ?_
      refine allNil ?_
      refine shutMm m room [] none 0 mp [] SlI.nil (n := 0) rfl ?_
      repeat (first | refine g_endt ?_ | refine g_end ?_ | refine g_then ?_ | refine g_in_normal ?_ | refine g_then_ret ?_ | refine g_in_ret ?_ | refine g_then_exit ?_ | refine g_in_exit rfl ?_ | refine g_in_exit_ne (by decide) ?_ | refine g_seq ?_ | refine g_region ?_ | refine g_block ?_ | refine g_ret ?_ | refine g_return_n ?_ | refine g_exit ?_ | refine g_skip ?_)
      exact ret2 (K := [MemP m room []]) rfl (resT rfl) (resT rfl) (.inr ⟨by omega, m, rfl, rfl⟩)
theorem NewG17_spec (room : Int) (h1 : 1 ≤ room) (h2 : room ≤ 2048) : Ctr Tryz.prog 5 [.int .i64 room] [] (fun v M => ∃ m, v = .tuple #[.pointer (some ⟨m, 0, none⟩), .int .i64 0] ∧ M = [MemP m room []]) :=
  (New17_spec room).mono fun v M h => by
    rcases h with ⟨h, _⟩ | ⟨_, h⟩
    · omega
    · exact h
theorem Len17_spec (m : Nat) (room : Int) (ps : List PrefD) : Ctr Tryz.prog 32 [.pointer (some ⟨m, 0, none⟩)] [MemP m room ps] (fun v M => v = .int .i64 (ps.length : Int) ∧ M = [MemP m room ps]) := by
  refine spec_of Tryz.func32 rfl Tryz.ntmps32 rfl fun w0 F => ?_
  -- hide
  -- (*ponder/pref.Memory).Len
  refine openMm m room ps fun a c mp zs hI => ?_
  repeat (first | refine g_endt ?_ | refine g_end ?_ | refine g_then ?_ | refine g_in_normal ?_ | refine g_then_ret ?_ | refine g_in_ret ?_ | refine g_then_exit ?_ | refine g_in_exit rfl ?_ | refine g_in_exit_ne (by decide) ?_ | refine g_seq ?_ | refine g_region ?_ | refine g_block ?_ | refine g_ret ?_ | refine g_return_n ?_ | refine g_exit ?_ | refine g_skip ?_)
  refine g_hideR fun Q_ hQ_ => ?_
  refine o_assign ?_
  refine g_end (G.imp (hQ_ .normal _) ?_)
  clear hQ_ Q_
  try refine g_then ?_
  repeat (first | refine g_endt ?_ | refine g_end ?_ | refine g_then ?_ | refine g_in_normal ?_ | refine g_then_ret ?_ | refine g_in_ret ?_ | refine g_then_exit ?_ | refine g_in_exit rfl ?_ | refine g_in_exit_ne (by decide) ?_ | refine g_seq ?_ | refine g_region ?_ | refine g_block ?_ | refine g_ret ?_ | refine g_return_n ?_ | refine g_exit ?_ | refine g_skip ?_)
  refine g_hideR fun Q_ hQ_ => ?_
  refine o_move ?_
  refine o_nil rfl ?_
  first | refine o_field rfl ?_ | refine o_fieldR rfl (by omega) ?_
  refine o_load1 (v := .slice a ps.length c) rfl rfl ?_
  refine o_len rfl rfl ?_
  refine o_assign ?_
  refine g_end (G.imp (hQ_ .normal _) ?_)
  clear hQ_ Q_
  try refine g_then ?_
  refine shutMm m room ps a c mp zs hI rfl ?_
  repeat (first | refine g_endt ?_ | refine g_end ?_ | refine g_then ?_ | refine g_in_normal ?_ | refine g_then_ret ?_ | refine g_in_ret ?_ | refine g_then_exit ?_ | refine g_in_exit rfl ?_ | refine g_in_exit_ne (by decide) ?_ | refine g_seq ?_ | refine g_region ?_ | refine g_block ?_ | refine g_ret ?_ | refine g_return_n ?_ | refine g_exit ?_ | refine g_skip ?_)
  exact ret1 (K := [MemP m room ps]) rfl (resT rfl) ⟨rfl, rfl⟩
set_option maxHeartbeats 4000000 in
theorem Add17_spec (m : Nat) (room : Int) (ps : List PrefD) (A : Option Addr) (n c : Nat) (l : List PrefD) (hl : l.length = n) (hm : n ≤ 10000) (hp : ps.length ≤ 10000) (hsm : ∀ p ∈ l, p.small) :
    Ctr Tryz.prog 15 [.pointer (some ⟨m, 0, none⟩), .slice A n c] [MemP m room ps, psl encP 16 A l] (fun v M => v = .int .i64 (addR room ps l).1 ∧ M = [MemP m room (addR room ps l).2]) := by
  refine spec_of Tryz.func15 rfl Tryz.ntmps15 rfl fun w0 F => ?_
  -- hide
  -- (*ponder/pref.Memory).Add
  repeat (first | refine g_endt ?_ | refine g_end ?_ | refine g_then ?_ | refine g_in_normal ?_ | refine g_then_ret ?_ | refine g_in_ret ?_ | refine g_then_exit ?_ | refine g_in_exit rfl ?_ | refine g_in_exit_ne (by decide) ?_ | refine g_seq ?_ | refine g_region ?_ | refine g_block ?_ | refine g_ret ?_ | refine g_return_n ?_ | refine g_exit ?_ | refine g_skip ?_)
  refine g_hideR fun Q_ hQ_ => ?_
  refine o_assign ?_
  refine g_end (G.imp (hQ_ .normal _) ?_)
  clear hQ_ Q_
  try refine g_then ?_
  repeat (first | refine g_endt ?_ | refine g_end ?_ | refine g_then ?_ | refine g_in_normal ?_ | refine g_then_ret ?_ | refine g_in_ret ?_ | refine g_then_exit ?_ | refine g_in_exit rfl ?_ | refine g_in_exit_ne (by decide) ?_ | refine g_seq ?_ | refine g_region ?_ | refine g_block ?_ | refine g_ret ?_ | refine g_return_n ?_ | refine g_exit ?_ | refine g_skip ?_)
  refine g_hideR fun Q_ hQ_ => ?_
  refine o_move ?_
  refine o_len rfl rfl ?_
  refine o_move ?_
  refine g_end (G.imp (hQ_ .normal _) ?_)
  clear hQ_ Q_
  try refine g_then ?_
  repeat (first | refine g_endt ?_ | refine g_end ?_ | refine g_then ?_ | refine g_in_normal ?_ | refine g_then_ret ?_ | refine g_in_ret ?_ | refine g_then_exit ?_ | refine g_in_exit rfl ?_ | refine g_in_exit_ne (by decide) ?_ | refine g_seq ?_ | refine g_region ?_ | refine g_block ?_ | refine g_ret ?_ | refine g_return_n ?_ | refine g_exit ?_ | refine g_skip ?_)
  refine g_loop (σ := {i : Nat // i ≤ n ∧ (l.take i).all validP = true}) (S := fun i => [(0, .pointer (some ⟨m, 0, none⟩)), (1, .slice A n c), (15, .slice A n c), (16, .int .i64 (n : Int)), (17, .int .i64 (i.1 : Int))]) (H := fun _ => [MemP m room ps, psl encP 16 A l]) (μ := fun i => n - i.1) (s0 := ⟨0, Nat.zero_le _, rfl⟩) (Sat.mem ⟨rfl, rfl, rfl, rfl, rfl, trivial⟩) ?_
  rintro ⟨i, hi, hall⟩ ρ'
  dsimp only at hi hall ⊢
  repeat (first | refine g_endt ?_ | refine g_end ?_ | refine g_then ?_ | refine g_in_normal ?_ | refine g_then_ret ?_ | refine g_in_ret ?_ | refine g_then_exit ?_ | refine g_in_exit rfl ?_ | refine g_in_exit_ne (by decide) ?_ | refine g_seq ?_ | refine g_region ?_ | refine g_block ?_ | refine g_ret ?_ | refine g_return_n ?_ | refine g_exit ?_ | refine g_skip ?_)
  refine g_hideR fun Q_ hQ_ => ?_
  refine o_lss rfl rfl ?_
  refine g_end (G.imp (hQ_ .normal _) ?_)
  clear hQ_ Q_
  try refine g_then ?_
  by_cases hin : i < n
  · first | refine g_seq (g_cond_t rfl (by first | rfl | (simp; done) | (simp; omega) | (simp; assumption)) ?_) | refine g_cond_t rfl (by first | rfl | (simp; done) | (simp; omega) | (simp; assumption)) ?_
    obtain ⟨x, hx⟩ : ∃ x, l[i]? = some x := ⟨_, List.getElem?_eq_getElem (by omega)⟩
    obtain ⟨v, hv⟩ : ∃ v, validP x = v := ⟨_, rfl⟩
    have hxm := List.mem_of_getElem? hx
    have hva := ValidP_spec x (hsm x hxm)
    rw [hv] at hva
    repeat (first | refine g_endt ?_ | refine g_end ?_ | refine g_then ?_ | refine g_in_normal ?_ | refine g_then_ret ?_ | refine g_in_ret ?_ | refine g_then_exit ?_ | refine g_in_exit rfl ?_ | refine g_in_exit_ne (by decide) ?_ | refine g_seq ?_ | refine g_region ?_ | refine g_block ?_ | refine g_ret ?_ | refine g_return_n ?_ | refine g_exit ?_ | refine g_skip ?_)
    repeat (first | refine g_endt ?_ | refine g_end ?_ | refine g_then ?_ | refine g_in_normal ?_ | refine g_then_ret ?_ | refine g_in_ret ?_ | refine g_then_exit ?_ | refine g_in_exit rfl ?_ | refine g_in_exit_ne (by decide) ?_ | refine g_seq ?_ | refine g_region ?_ | refine g_block ?_ | refine g_ret ?_ | refine g_return_n ?_ | refine g_exit ?_ | refine g_skip ?_)
    refine g_hideR fun Q_ hQ_ => ?_
    refine o_indexR (ys := l) (i := i) rfl rfl rfl (by omega) hl rfl ?_
    refine o_loadE (ys := l) rfl rfl hx ?_
    refine o_alloc fun c6 => ?_
    refine o_store (v := x.val) rfl rfl rfl rfl rfl ?_
    refine g_end (G.imp (hQ_ .normal _) ?_)
    clear hQ_ Q_
    try refine g_then ?_
    refine G.norm c6 x.val.cells rfl ?_
    repeat (first | refine g_endt ?_ | refine g_end ?_ | refine g_then ?_ | refine g_in_normal ?_ | refine g_then_ret ?_ | refine g_in_ret ?_ | refine g_then_exit ?_ | refine g_in_exit rfl ?_ | refine g_in_exit_ne (by decide) ?_ | refine g_seq ?_ | refine g_region ?_ | refine g_block ?_ | refine g_ret ?_ | refine g_return_n ?_ | refine g_exit ?_ | refine g_skip ?_)
    refine g_hideR fun Q_ hQ_ => ?_
    refine o_loadN (v := x.val) rfl rfl rfl ?_
    refine o_call (hva) rfl rfl ?_
    rintro _ _ ⟨rfl, rfl⟩
    refine o_not rfl ?_
    refine g_end (G.imp (hQ_ .normal _) ?_)
    clear hQ_ Q_
    try refine g_then ?_
    cases v with
    | false =>
      first | refine g_seq (g_cond_t rfl (by first | rfl | (simp; done) | (simp; omega) | (simp; assumption)) ?_) | refine g_cond_t rfl (by first | rfl | (simp; done) | (simp; omega) | (simp; assumption)) ?_
      have hbad : l.all validP = false := by rw [List.all_eq_false]; exact ⟨x, hxm, by rw [hv]; decide⟩
      rw [addR_bad hbad]
      repeat (first | refine g_endt ?_ | refine g_end ?_ | refine g_then ?_ | refine g_in_normal ?_ | refine g_then_ret ?_ | refine g_in_ret ?_ | refine g_then_exit ?_ | refine g_in_exit rfl ?_ | refine g_in_exit_ne (by decide) ?_ | refine g_seq ?_ | refine g_region ?_ | refine g_block ?_ | refine g_ret ?_ | refine g_return_n ?_ | refine g_exit ?_ | refine g_skip ?_)
      refine g_hideR fun Q_ hQ_ => ?_
      refine o_assign ?_
      refine g_end (G.imp (hQ_ .normal _) ?_)
      clear hQ_ Q_
      try refine g_then ?_
      repeat (first | refine g_endt ?_ | refine g_end ?_ | refine g_then ?_ | refine g_in_normal ?_ | refine g_then_ret ?_ | refine g_in_ret ?_ | refine g_then_exit ?_ | refine g_in_exit rfl ?_ | refine g_in_exit_ne (by decide) ?_ | refine g_seq ?_ | refine g_region ?_ | refine g_block ?_ | refine g_ret ?_ | refine g_return_n ?_ | refine g_exit ?_ | refine g_skip ?_)
      exact ret1 (K := [MemP m room ps]) rfl (resT (v := .int .i64 9) rfl) ⟨rfl, rfl⟩
    | true =>
      first | refine g_seq (g_cond_f rfl (by first | rfl | (simp; done) | (simp; omega) | (simp; assumption)) ?_) | refine g_cond_f rfl (by first | rfl | (simp; done) | (simp; omega) | (simp; assumption)) ?_
      repeat (first | refine g_endt ?_ | refine g_end ?_ | refine g_then ?_ | refine g_in_normal ?_ | refine g_then_ret ?_ | refine g_in_ret ?_ | refine g_then_exit ?_ | refine g_in_exit rfl ?_ | refine g_in_exit_ne (by decide) ?_ | refine g_seq ?_ | refine g_region ?_ | refine g_block ?_ | refine g_ret ?_ | refine g_return_n ?_ | refine g_exit ?_ | refine g_skip ?_)
      repeat (first | refine g_endt ?_ | refine g_end ?_ | refine g_then ?_ | refine g_in_normal ?_ | refine g_then_ret ?_ | refine g_in_ret ?_ | refine g_then_exit ?_ | refine g_in_exit rfl ?_ | refine g_in_exit_ne (by decide) ?_ | refine g_seq ?_ | refine g_region ?_ | refine g_block ?_ | refine g_ret ?_ | refine g_return_n ?_ | refine g_exit ?_ | refine g_skip ?_)
      refine g_hideR fun Q_ hQ_ => ?_
      refine o_add (c := ((i + 1 : Nat) : Int)) rfl rfl (by omega) (by omega) (by omega) ?_
      refine o_move ?_
      refine g_end (G.imp (hQ_ .normal _) ?_)
      clear hQ_ Q_
      try refine g_then ?_
      repeat (first | refine g_endt ?_ | refine g_end ?_ | refine g_then ?_ | refine g_in_normal ?_ | refine g_then_ret ?_ | refine g_in_ret ?_ | refine g_then_exit ?_ | refine g_in_exit rfl ?_ | refine g_in_exit_ne (by decide) ?_ | refine g_seq ?_ | refine g_region ?_ | refine g_block ?_ | refine g_ret ?_ | refine g_return_n ?_ | refine g_exit ?_ | refine g_skip ?_)
      exact g_meets ⟨i + 1, hin, by rw [List.take_add_one, hx, List.all_append, hall]; simp [hv]⟩ (by show n - (i + 1) < n - i; omega) (Sat.mem ⟨rfl, rfl, rfl, rfl, rfl, trivial⟩)
  first | refine g_seq (g_cond_f rfl (by simp; omega) ?_) | refine g_cond_f rfl (by simp; omega) ?_
  rw [List.take_of_length_le (by omega)] at hall
  repeat (first | refine g_endt ?_ | refine g_end ?_ | refine g_then ?_ | refine g_in_normal ?_ | refine g_then_ret ?_ | refine g_in_ret ?_ | refine g_then_exit ?_ | refine g_in_exit rfl ?_ | refine g_in_exit_ne (by decide) ?_ | refine g_seq ?_ | refine g_region ?_ | refine g_block ?_ | refine g_ret ?_ | refine g_return_n ?_ | refine g_exit ?_ | refine g_skip ?_)
  refine g_hideR fun Q_ hQ_ => ?_
  refine o_assign ?_
  refine g_end (G.imp (hQ_ .normal _) ?_)
  clear hQ_ Q_
  try refine g_then ?_
  refine openMm m room ps fun a c0 mp zs hI => ?_
  repeat (first | refine g_endt ?_ | refine g_end ?_ | refine g_then ?_ | refine g_in_normal ?_ | refine g_then_ret ?_ | refine g_in_ret ?_ | refine g_then_exit ?_ | refine g_in_exit rfl ?_ | refine g_in_exit_ne (by decide) ?_ | refine g_seq ?_ | refine g_region ?_ | refine g_block ?_ | refine g_ret ?_ | refine g_return_n ?_ | refine g_exit ?_ | refine g_skip ?_)
  refine g_hideR fun Q_ hQ_ => ?_
  refine o_move ?_
  refine o_nil rfl ?_
  first | refine o_field rfl ?_ | refine o_fieldR rfl (by omega) ?_
  refine o_load1 (v := .slice a ps.length c0) rfl rfl ?_
  refine o_len rfl rfl ?_
  refine o_move ?_
  refine g_end (G.imp (hQ_ .normal _) ?_)
  clear hQ_ Q_
  try refine g_then ?_
  refine G.nil_slice (α := PrefD) 41 encP 16 ?_
  repeat (first | refine g_endt ?_ | refine g_end ?_ | refine g_then ?_ | refine g_in_normal ?_ | refine g_then_ret ?_ | refine g_in_ret ?_ | refine g_then_exit ?_ | refine g_in_exit rfl ?_ | refine g_in_exit_ne (by decide) ?_ | refine g_seq ?_ | refine g_region ?_ | refine g_block ?_ | refine g_ret ?_ | refine g_return_n ?_ | refine g_exit ?_ | refine g_skip ?_)
  refine g_loop (σ := {t : Nat × Option Addr × Nat // t.1 ≤ ps.length}) (S := fun t => [(0, .pointer (some ⟨m, 0, none⟩)), (1, .slice A n c), (7, .slice t.1.2.1 ((ps.take t.1.1).filter fun q => !l.any fun p => takesP p q).length t.1.2.2), (28, .slice a ps.length c0), (29, .int .i64 (ps.length : Int)), (30, .int .i64 (t.1.1 : Int))])
    (H := fun t => [mC m room a ps.length c0 mp, psl encP 16 a ps, MapASP mp zs, pslots zs ps, psl encP 16 A l, oP t.1.2.1 t.1.2.2 ((ps.take t.1.1).filter fun q => !l.any fun p => takesP p q)]) (μ := fun t => ps.length - t.1.1) (s0 := ⟨(0, none, 0), Nat.zero_le _⟩) (Sat.mem ⟨rfl, rfl, rfl, rfl, rfl, rfl, trivial⟩) (t := (inferInstance : Take _ [mC m room a ps.length c0 mp, psl encP 16 a ps, MapASP mp zs, pslots zs ps, psl encP 16 A l, oP none 0 []] _)) ?_
  rintro ⟨⟨i2, S, s⟩, hi2⟩ ρ2
  dsimp only at hi2 ⊢
  have hol : ((ps.take i2).filter fun q => !l.any fun p => takesP p q).length ≤ i2 := Nat.le_trans (List.length_filter_le _ _) (by simp; omega)
  repeat (first | refine g_endt ?_ | refine g_end ?_ | refine g_then ?_ | refine g_in_normal ?_ | refine g_then_ret ?_ | refine g_in_ret ?_ | refine g_then_exit ?_ | refine g_in_exit rfl ?_ | refine g_in_exit_ne (by decide) ?_ | refine g_seq ?_ | refine g_region ?_ | refine g_block ?_ | refine g_ret ?_ | refine g_return_n ?_ | refine g_exit ?_ | refine g_skip ?_)
  refine g_hideR fun Q_ hQ_ => ?_
  refine o_lss rfl rfl ?_
  refine g_end (G.imp (hQ_ .normal _) ?_)
  clear hQ_ Q_
  try refine g_then ?_
  by_cases hin2 : i2 < ps.length
  · first | refine g_seq (g_cond_t rfl (by first | rfl | (simp; done) | (simp; omega) | (simp; assumption)) ?_) | refine g_cond_t rfl (by first | rfl | (simp; done) | (simp; omega) | (simp; assumption)) ?_
    obtain ⟨q, hq⟩ : ∃ q, ps[i2]? = some q := ⟨_, List.getElem?_eq_getElem hin2⟩
    have hft := filter_take (fun q => !l.any fun p => takesP p q) hq
    generalize hos : ((ps.take i2).filter fun q => !l.any fun p => takesP p q) = os at hol hft ⊢
    repeat (first | refine g_endt ?_ | refine g_end ?_ | refine g_then ?_ | refine g_in_normal ?_ | refine g_then_ret ?_ | refine g_in_ret ?_ | refine g_then_exit ?_ | refine g_in_exit rfl ?_ | refine g_in_exit_ne (by decide) ?_ | refine g_seq ?_ | refine g_region ?_ | refine g_block ?_ | refine g_ret ?_ | refine g_return_n ?_ | refine g_exit ?_ | refine g_skip ?_)
    repeat (first | refine g_endt ?_ | refine g_end ?_ | refine g_then ?_ | refine g_in_normal ?_ | refine g_then_ret ?_ | refine g_in_ret ?_ | refine g_then_exit ?_ | refine g_in_exit rfl ?_ | refine g_in_exit_ne (by decide) ?_ | refine g_seq ?_ | refine g_region ?_ | refine g_block ?_ | refine g_ret ?_ | refine g_return_n ?_ | refine g_exit ?_ | refine g_skip ?_)
    refine g_hideR fun Q_ hQ_ => ?_
    refine o_indexR (ys := ps) (i := i2) rfl rfl rfl hin2 rfl rfl ?_
    refine o_loadE (ys := ps) rfl rfl hq ?_
    refine o_alloc fun c9 => ?_
    refine o_store (v := q.val) rfl rfl rfl rfl rfl ?_
    refine g_end (G.imp (hQ_ .normal _) ?_)
    clear hQ_ Q_
    try refine g_then ?_
    refine G.norm c9 q.val.cells rfl ?_
    repeat (first | refine g_endt ?_ | refine g_end ?_ | refine g_then ?_ | refine g_in_normal ?_ | refine g_then_ret ?_ | refine g_in_ret ?_ | refine g_then_exit ?_ | refine g_in_exit rfl ?_ | refine g_in_exit_ne (by decide) ?_ | refine g_seq ?_ | refine g_region ?_ | refine g_block ?_ | refine g_ret ?_ | refine g_return_n ?_ | refine g_exit ?_ | refine g_skip ?_)
    refine g_hideR fun Q_ hQ_ => ?_
    refine o_assign ?_
    refine g_end (G.imp (hQ_ .normal _) ?_)
    clear hQ_ Q_
    try refine g_then ?_
    refine g_cut (σ := Unit) (ds' := []) (S := fun _ => [(0, .pointer (some ⟨m, 0, none⟩)), (1, .slice A n c), (7, .slice S os.length s), (9, .pointer (some ⟨c9, 0, none⟩)), (10, .bool (l.any fun p => takesP p q)), (28, .slice a ps.length c0), (29, .int .i64 (ps.length : Int)), (30, .int .i64 (i2 : Int))])
      (H := fun _ => [cPf c9 q, mC m room a ps.length c0 mp, psl encP 16 a ps, MapASP mp zs, pslots zs ps, psl encP 16 A l, oP S s os]) (ok := fun _ => True) ?_ ?_
    · skip
      repeat (first | refine g_endt ?_ | refine g_end ?_ | refine g_then ?_ | refine g_in_normal ?_ | refine g_then_ret ?_ | refine g_in_ret ?_ | refine g_then_exit ?_ | refine g_in_exit rfl ?_ | refine g_in_exit_ne (by decide) ?_ | refine g_seq ?_ | refine g_region ?_ | refine g_block ?_ | refine g_ret ?_ | refine g_return_n ?_ | refine g_exit ?_ | refine g_skip ?_)
      refine g_hideR fun Q_ hQ_ => ?_
      refine o_move ?_
      refine o_len rfl rfl ?_
      refine o_move ?_
      refine g_end (G.imp (hQ_ .normal _) ?_)
      clear hQ_ Q_
      try refine g_then ?_
      repeat (first | refine g_endt ?_ | refine g_end ?_ | refine g_then ?_ | refine g_in_normal ?_ | refine g_then_ret ?_ | refine g_in_ret ?_ | refine g_then_exit ?_ | refine g_in_exit rfl ?_ | refine g_in_exit_ne (by decide) ?_ | refine g_seq ?_ | refine g_region ?_ | refine g_block ?_ | refine g_ret ?_ | refine g_return_n ?_ | refine g_exit ?_ | refine g_skip ?_)
      refine g_loop (σ := {j : Nat // j ≤ n}) (S := fun j => [(0, .pointer (some ⟨m, 0, none⟩)), (1, .slice A n c), (7, .slice S os.length s), (9, .pointer (some ⟨c9, 0, none⟩)), (10, .bool ((l.take j.1).any fun p => takesP p q)), (28, .slice a ps.length c0), (29, .int .i64 (ps.length : Int)), (30, .int .i64 (i2 : Int)), (34, .slice A n c), (35, .int .i64 (n : Int)), (36, .int .i64 (j.1 : Int))])
        (H := fun _ => [cPf c9 q, mC m room a ps.length c0 mp, psl encP 16 a ps, MapASP mp zs, pslots zs ps, psl encP 16 A l, oP S s os]) (μ := fun j => n - j.1) (s0 := ⟨0, Nat.zero_le _⟩) (Sat.mem ⟨rfl, rfl, rfl, rfl, rfl, rfl, rfl, rfl, rfl, rfl, rfl, trivial⟩) ?_
      rintro ⟨j, hj⟩ ρ3
      dsimp only at hj ⊢
      repeat (first | refine g_endt ?_ | refine g_end ?_ | refine g_then ?_ | refine g_in_normal ?_ | refine g_then_ret ?_ | refine g_in_ret ?_ | refine g_then_exit ?_ | refine g_in_exit rfl ?_ | refine g_in_exit_ne (by decide) ?_ | refine g_seq ?_ | refine g_region ?_ | refine g_block ?_ | refine g_ret ?_ | refine g_return_n ?_ | refine g_exit ?_ | refine g_skip ?_)
      refine g_hideR fun Q_ hQ_ => ?_
      refine o_lss rfl rfl ?_
      refine g_end (G.imp (hQ_ .normal _) ?_)
      clear hQ_ Q_
      try refine g_then ?_
      by_cases hjn : j < n
      · first | refine g_seq (g_cond_t rfl (by first | rfl | (simp; done) | (simp; omega) | (simp; assumption)) ?_) | refine g_cond_t rfl (by first | rfl | (simp; done) | (simp; omega) | (simp; assumption)) ?_
        obtain ⟨x, hx⟩ : ∃ x, l[j]? = some x := ⟨_, List.getElem?_eq_getElem (by omega)⟩
        have hnx := any_take (fun p => takesP p q) hx
        obtain ⟨tk, htk⟩ : ∃ tk, takesP x q = tk := ⟨_, rfl⟩
        have hts := takes_spec x q
        rw [htk] at hts
        rw [htk] at hnx
        generalize ((l.take j).any fun p => takesP p q) = g at hnx ⊢
        repeat (first | refine g_endt ?_ | refine g_end ?_ | refine g_then ?_ | refine g_in_normal ?_ | refine g_then_ret ?_ | refine g_in_ret ?_ | refine g_then_exit ?_ | refine g_in_exit rfl ?_ | refine g_in_exit_ne (by decide) ?_ | refine g_seq ?_ | refine g_region ?_ | refine g_block ?_ | refine g_ret ?_ | refine g_return_n ?_ | refine g_exit ?_ | refine g_skip ?_)
        repeat (first | refine g_endt ?_ | refine g_end ?_ | refine g_then ?_ | refine g_in_normal ?_ | refine g_then_ret ?_ | refine g_in_ret ?_ | refine g_then_exit ?_ | refine g_in_exit rfl ?_ | refine g_in_exit_ne (by decide) ?_ | refine g_seq ?_ | refine g_region ?_ | refine g_block ?_ | refine g_ret ?_ | refine g_return_n ?_ | refine g_exit ?_ | refine g_skip ?_)
        refine g_hideR fun Q_ hQ_ => ?_
        refine o_indexR (ys := l) (i := j) rfl rfl rfl (by omega) hl rfl ?_
        refine o_loadE (ys := l) rfl rfl hx ?_
        refine o_alloc fun c12 => ?_
        refine o_store (v := x.val) rfl rfl rfl rfl rfl ?_
        refine g_end (G.imp (hQ_ .normal _) ?_)
        clear hQ_ Q_
        try refine g_then ?_
        refine G.norm c12 x.val.cells rfl ?_
        cases g with
        | true =>
          repeat (first | refine g_endt ?_ | refine g_end ?_ | refine g_then ?_ | refine g_in_normal ?_ | refine g_then_ret ?_ | refine g_in_ret ?_ | refine g_then_exit ?_ | refine g_in_exit rfl ?_ | refine g_in_exit_ne (by decide) ?_ | refine g_seq ?_ | refine g_region ?_ | refine g_block ?_ | refine g_ret ?_ | refine g_return_n ?_ | refine g_exit ?_ | refine g_skip ?_)
          refine g_hideR fun Q_ hQ_ => ?_
          refine o_move ?_
          refine o_move ?_
          first | refine o_unwanted rfl rfl rfl rfl rfl ?_ | refine o_undef rfl rfl rfl ?_
          first | refine o_unwanted rfl rfl rfl rfl rfl ?_ | refine o_undef rfl rfl rfl ?_
          first | refine o_unwanted rfl rfl rfl rfl rfl ?_ | refine o_undef rfl rfl rfl ?_
          first | refine o_pick_t rfl rfl ?_ | refine o_pick_f rfl rfl ?_
          refine o_assign ?_
          refine g_end (G.imp (hQ_ .normal _) ?_)
          clear hQ_ Q_
          try refine g_then ?_
          repeat (first | refine g_endt ?_ | refine g_end ?_ | refine g_then ?_ | refine g_in_normal ?_ | refine g_then_ret ?_ | refine g_in_ret ?_ | refine g_then_exit ?_ | refine g_in_exit rfl ?_ | refine g_in_exit_ne (by decide) ?_ | refine g_seq ?_ | refine g_region ?_ | refine g_block ?_ | refine g_ret ?_ | refine g_return_n ?_ | refine g_exit ?_ | refine g_skip ?_)
          repeat (first | refine g_endt ?_ | refine g_end ?_ | refine g_then ?_ | refine g_in_normal ?_ | refine g_then_ret ?_ | refine g_in_ret ?_ | refine g_then_exit ?_ | refine g_in_exit rfl ?_ | refine g_in_exit_ne (by decide) ?_ | refine g_seq ?_ | refine g_region ?_ | refine g_block ?_ | refine g_ret ?_ | refine g_return_n ?_ | refine g_exit ?_ | refine g_skip ?_)
          refine g_hideR fun Q_ hQ_ => ?_
          refine o_add (c := ((j + 1 : Nat) : Int)) rfl rfl (by omega) (by omega) (by omega) ?_
          refine o_move ?_
          refine g_end (G.imp (hQ_ .normal _) ?_)
          clear hQ_ Q_
          try refine g_then ?_
          repeat (first | refine g_endt ?_ | refine g_end ?_ | refine g_then ?_ | refine g_in_normal ?_ | refine g_then_ret ?_ | refine g_in_ret ?_ | refine g_then_exit ?_ | refine g_in_exit rfl ?_ | refine g_in_exit_ne (by decide) ?_ | refine g_seq ?_ | refine g_region ?_ | refine g_block ?_ | refine g_ret ?_ | refine g_return_n ?_ | refine g_exit ?_ | refine g_skip ?_)
          exact g_meets ⟨j + 1, hjn⟩ (by show n - (j + 1) < n - j; omega) (Sat.mem ⟨rfl, rfl, rfl, rfl, by rw [hnx]; rfl, rfl, rfl, rfl, rfl, rfl, rfl, trivial⟩)
        | false =>
          repeat (first | refine g_endt ?_ | refine g_end ?_ | refine g_then ?_ | refine g_in_normal ?_ | refine g_then_ret ?_ | refine g_in_ret ?_ | refine g_then_exit ?_ | refine g_in_exit rfl ?_ | refine g_in_exit_ne (by decide) ?_ | refine g_seq ?_ | refine g_region ?_ | refine g_block ?_ | refine g_ret ?_ | refine g_return_n ?_ | refine g_exit ?_ | refine g_skip ?_)
          refine g_hideR fun Q_ hQ_ => ?_
          refine o_move ?_
          refine o_move ?_
          refine o_want rfl rfl rfl rfl rfl (o_loadN (v := x.val) rfl rfl rfl ?_)
          refine o_want rfl rfl rfl rfl rfl (o_loadN (v := q.val) rfl rfl rfl ?_)
          refine o_want rfl rfl rfl rfl rfl (o_call (hts) rfl rfl ?_)
          rintro _ _ ⟨rfl, rfl⟩
          first | refine o_pick_t rfl rfl ?_ | refine o_pick_f rfl rfl ?_
          refine o_assign ?_
          refine g_end (G.imp (hQ_ .normal _) ?_)
          clear hQ_ Q_
          try refine g_then ?_
          repeat (first | refine g_endt ?_ | refine g_end ?_ | refine g_then ?_ | refine g_in_normal ?_ | refine g_then_ret ?_ | refine g_in_ret ?_ | refine g_then_exit ?_ | refine g_in_exit rfl ?_ | refine g_in_exit_ne (by decide) ?_ | refine g_seq ?_ | refine g_region ?_ | refine g_block ?_ | refine g_ret ?_ | refine g_return_n ?_ | refine g_exit ?_ | refine g_skip ?_)
          repeat (first | refine g_endt ?_ | refine g_end ?_ | refine g_then ?_ | refine g_in_normal ?_ | refine g_then_ret ?_ | refine g_in_ret ?_ | refine g_then_exit ?_ | refine g_in_exit rfl ?_ | refine g_in_exit_ne (by decide) ?_ | refine g_seq ?_ | refine g_region ?_ | refine g_block ?_ | refine g_ret ?_ | refine g_return_n ?_ | refine g_exit ?_ | refine g_skip ?_)
          refine g_hideR fun Q_ hQ_ => ?_
          refine o_add (c := ((j + 1 : Nat) : Int)) rfl rfl (by omega) (by omega) (by omega) ?_
          refine o_move ?_
          refine g_end (G.imp (hQ_ .normal _) ?_)
          clear hQ_ Q_
          try refine g_then ?_
          repeat (first | refine g_endt ?_ | refine g_end ?_ | refine g_then ?_ | refine g_in_normal ?_ | refine g_then_ret ?_ | refine g_in_ret ?_ | refine g_then_exit ?_ | refine g_in_exit rfl ?_ | refine g_in_exit_ne (by decide) ?_ | refine g_seq ?_ | refine g_region ?_ | refine g_block ?_ | refine g_ret ?_ | refine g_return_n ?_ | refine g_exit ?_ | refine g_skip ?_)
          exact g_meets ⟨j + 1, hjn⟩ (by show n - (j + 1) < n - j; omega) (Sat.mem ⟨rfl, rfl, rfl, rfl, by rw [hnx]; rfl, rfl, rfl, rfl, rfl, rfl, rfl, trivial⟩)
      · first | refine g_seq (g_cond_f rfl (by simp; omega) ?_) | refine g_cond_f rfl (by simp; omega) ?_
        rw [List.take_of_length_le (by omega)]
        repeat (first | refine g_endt ?_ | refine g_end ?_ | refine g_then ?_ | refine g_in_normal ?_ | refine g_then_ret ?_ | refine g_in_ret ?_ | refine g_then_exit ?_ | refine g_in_exit rfl ?_ | refine g_in_exit_ne (by decide) ?_ | refine g_seq ?_ | refine g_region ?_ | refine g_block ?_ | refine g_ret ?_ | refine g_return_n ?_ | refine g_exit ?_ | refine g_skip ?_)
        exact g_meets () trivial (Sat.mem ⟨rfl, rfl, rfl, rfl, rfl, rfl, rfl, rfl, trivial⟩)
    rintro _ ρ3 _
    generalize hg : (l.any fun p => takesP p q) = g at hft ⊢
    repeat (first | refine g_endt ?_ | refine g_end ?_ | refine g_then ?_ | refine g_in_normal ?_ | refine g_then_ret ?_ | refine g_in_ret ?_ | refine g_then_exit ?_ | refine g_in_exit rfl ?_ | refine g_in_exit_ne (by decide) ?_ | refine g_seq ?_ | refine g_region ?_ | refine g_block ?_ | refine g_ret ?_ | refine g_return_n ?_ | refine g_exit ?_ | refine g_skip ?_)
    refine g_hideR fun Q_ hQ_ => ?_
    refine o_move ?_
    refine o_not rfl ?_
    refine g_end (G.imp (hQ_ .normal _) ?_)
    clear hQ_ Q_
    try refine g_then ?_
    cases g with
    | true =>
      rw [if_neg (by decide), List.append_nil] at hft
      first | refine g_seq (g_cond_f rfl (by first | rfl | (simp; done) | (simp; omega) | (simp; assumption)) ?_) | refine g_cond_f rfl (by first | rfl | (simp; done) | (simp; omega) | (simp; assumption)) ?_
      repeat (first | refine g_endt ?_ | refine g_end ?_ | refine g_then ?_ | refine g_in_normal ?_ | refine g_then_ret ?_ | refine g_in_ret ?_ | refine g_then_exit ?_ | refine g_in_exit rfl ?_ | refine g_in_exit_ne (by decide) ?_ | refine g_seq ?_ | refine g_region ?_ | refine g_block ?_ | refine g_ret ?_ | refine g_return_n ?_ | refine g_exit ?_ | refine g_skip ?_)
      repeat (first | refine g_endt ?_ | refine g_end ?_ | refine g_then ?_ | refine g_in_normal ?_ | refine g_then_ret ?_ | refine g_in_ret ?_ | refine g_then_exit ?_ | refine g_in_exit rfl ?_ | refine g_in_exit_ne (by decide) ?_ | refine g_seq ?_ | refine g_region ?_ | refine g_block ?_ | refine g_ret ?_ | refine g_return_n ?_ | refine g_exit ?_ | refine g_skip ?_)
      refine g_hideR fun Q_ hQ_ => ?_
      refine o_add (c := ((i2 + 1 : Nat) : Int)) rfl rfl (by omega) (by omega) (by omega) ?_
      refine o_move ?_
      refine g_end (G.imp (hQ_ .normal _) ?_)
      clear hQ_ Q_
      try refine g_then ?_
      repeat (first | refine g_endt ?_ | refine g_end ?_ | refine g_then ?_ | refine g_in_normal ?_ | refine g_then_ret ?_ | refine g_in_ret ?_ | refine g_then_exit ?_ | refine g_in_exit rfl ?_ | refine g_in_exit_ne (by decide) ?_ | refine g_seq ?_ | refine g_region ?_ | refine g_block ?_ | refine g_ret ?_ | refine g_return_n ?_ | refine g_exit ?_ | refine g_skip ?_)
      exact g_meets ⟨(i2 + 1, S, s), hin2⟩ (by show ps.length - (i2 + 1) < ps.length - i2; omega) (Sat.mem ⟨rfl, rfl, by rw [hft]; rfl, rfl, rfl, rfl, trivial⟩) (t := by
        show Take _ [mC m room a ps.length c0 mp, psl encP 16 a ps, MapASP mp zs, pslots zs ps, psl encP 16 A l, oP S s ((ps.take (i2 + 1)).filter fun q => !l.any fun p => takesP p q)] _
        rw [hft]; infer_instance)
    | false =>
      rw [if_pos (by decide)] at hft
      first | refine g_seq (g_cond_t rfl (by first | rfl | (simp; done) | (simp; omega) | (simp; assumption)) ?_) | refine g_cond_t rfl (by first | rfl | (simp; done) | (simp; omega) | (simp; assumption)) ?_
      repeat (first | refine g_endt ?_ | refine g_end ?_ | refine g_then ?_ | refine g_in_normal ?_ | refine g_then_ret ?_ | refine g_in_ret ?_ | refine g_then_exit ?_ | refine g_in_exit rfl ?_ | refine g_in_exit_ne (by decide) ?_ | refine g_seq ?_ | refine g_region ?_ | refine g_block ?_ | refine g_ret ?_ | refine g_return_n ?_ | refine g_exit ?_ | refine g_skip ?_)
      refine g_hideR fun Q_ hQ_ => ?_
      refine o_move ?_
      refine o_loadN (v := q.val) rfl rfl rfl ?_
      refine o_litP (e := 41) encP [q] (q).val.cells (fun w => by kernel_rfl) (by simp [encP]) (by simp [maxLen]) fun _ => ?_
      refine o_append (xs := os) (ys := [q]) (by first | rfl | (simp only [List.length_map, List.length_take, List.length_append]; first | rfl | (congr 1; omega))) rfl rfl rfl rfl (fun _ => .inr trivial) (by simp [maxLen]; omega) (by simp; omega) fun S2 s2 => ?_
      refine o_assign ?_
      refine g_end (G.imp (hQ_ .normal _) ?_)
      clear hQ_ Q_
      try refine g_then ?_
      repeat (first | refine g_endt ?_ | refine g_end ?_ | refine g_then ?_ | refine g_in_normal ?_ | refine g_then_ret ?_ | refine g_in_ret ?_ | refine g_then_exit ?_ | refine g_in_exit rfl ?_ | refine g_in_exit_ne (by decide) ?_ | refine g_seq ?_ | refine g_region ?_ | refine g_block ?_ | refine g_ret ?_ | refine g_return_n ?_ | refine g_exit ?_ | refine g_skip ?_)
      repeat (first | refine g_endt ?_ | refine g_end ?_ | refine g_then ?_ | refine g_in_normal ?_ | refine g_then_ret ?_ | refine g_in_ret ?_ | refine g_then_exit ?_ | refine g_in_exit rfl ?_ | refine g_in_exit_ne (by decide) ?_ | refine g_seq ?_ | refine g_region ?_ | refine g_block ?_ | refine g_ret ?_ | refine g_return_n ?_ | refine g_exit ?_ | refine g_skip ?_)
      refine g_hideR fun Q_ hQ_ => ?_
      refine o_add (c := ((i2 + 1 : Nat) : Int)) rfl rfl (by omega) (by omega) (by omega) ?_
      refine o_move ?_
      refine g_end (G.imp (hQ_ .normal _) ?_)
      clear hQ_ Q_
      try refine g_then ?_
      repeat (first | refine g_endt ?_ | refine g_end ?_ | refine g_then ?_ | refine g_in_normal ?_ | refine g_then_ret ?_ | refine g_in_ret ?_ | refine g_then_exit ?_ | refine g_in_exit rfl ?_ | refine g_in_exit_ne (by decide) ?_ | refine g_seq ?_ | refine g_region ?_ | refine g_block ?_ | refine g_ret ?_ | refine g_return_n ?_ | refine g_exit ?_ | refine g_skip ?_)
      exact g_meets ⟨(i2 + 1, S2, s2), hin2⟩ (by show ps.length - (i2 + 1) < ps.length - i2; omega) (Sat.mem ⟨rfl, rfl, by rw [hft, List.length_append]; rfl, rfl, rfl, rfl, trivial⟩) (t := by
        show Take _ [mC m room a ps.length c0 mp, psl encP 16 a ps, MapASP mp zs, pslots zs ps, psl encP 16 A l, oP S2 s2 ((ps.take (i2 + 1)).filter fun q => !l.any fun p => takesP p q)] _
        rw [hft]; infer_instance)
  first | refine g_seq (g_cond_f rfl (by simp; omega) ?_) | refine g_cond_f rfl (by simp; omega) ?_
  rw [List.take_of_length_le (by omega)] at hol ⊢
  have hout : outP ps l = (ps.filter fun q => !l.any fun p => takesP p q) ++ l.filter fun p => !rejP p := rfl
  generalize (ps.filter fun q => !l.any fun p => takesP p q) = us at hol hout ⊢
  repeat (first | refine g_endt ?_ | refine g_end ?_ | refine g_then ?_ | refine g_in_normal ?_ | refine g_then_ret ?_ | refine g_in_ret ?_ | refine g_then_exit ?_ | refine g_in_exit rfl ?_ | refine g_in_exit_ne (by decide) ?_ | refine g_seq ?_ | refine g_region ?_ | refine g_block ?_ | refine g_ret ?_ | refine g_return_n ?_ | refine g_exit ?_ | refine g_skip ?_)
  refine g_hideR fun Q_ hQ_ => ?_
  refine o_move ?_
  refine o_len rfl rfl ?_
  refine o_move ?_
  refine g_end (G.imp (hQ_ .normal _) ?_)
  clear hQ_ Q_
  try refine g_then ?_
  repeat (first | refine g_endt ?_ | refine g_end ?_ | refine g_then ?_ | refine g_in_normal ?_ | refine g_then_ret ?_ | refine g_in_ret ?_ | refine g_then_exit ?_ | refine g_in_exit rfl ?_ | refine g_in_exit_ne (by decide) ?_ | refine g_seq ?_ | refine g_region ?_ | refine g_block ?_ | refine g_ret ?_ | refine g_return_n ?_ | refine g_exit ?_ | refine g_skip ?_)
  refine g_loop (σ := {t : Nat × Option Addr × Nat // t.1 ≤ n}) (S := fun t => [(0, .pointer (some ⟨m, 0, none⟩)), (1, .slice A n c), (7, .slice t.1.2.1 (us ++ (l.take t.1.1).filter fun p => !rejP p).length t.1.2.2), (54, .slice A n c), (55, .int .i64 (n : Int)), (56, .int .i64 (t.1.1 : Int))])
    (H := fun t => [mC m room a ps.length c0 mp, psl encP 16 a ps, MapASP mp zs, pslots zs ps, psl encP 16 A l, oP t.1.2.1 t.1.2.2 (us ++ (l.take t.1.1).filter fun p => !rejP p)]) (μ := fun t => n - t.1.1) (s0 := ⟨(0, S, s), Nat.zero_le _⟩) (Sat.mem ⟨rfl, rfl, by simp; rfl, rfl, rfl, rfl, trivial⟩) (t := by
      show Take _ [mC m room a ps.length c0 mp, psl encP 16 a ps, MapASP mp zs, pslots zs ps, psl encP 16 A l, oP S s (us ++ [])] _
      rw [List.append_nil]; infer_instance) ?_
  rintro ⟨⟨i3, S3, s3⟩, hi3⟩ ρ4
  dsimp only at hi3 ⊢
  have hfl3 : ((l.take i3).filter fun p => !rejP p).length ≤ i3 := Nat.le_trans (List.length_filter_le _ _) (by simp; omega)
  repeat (first | refine g_endt ?_ | refine g_end ?_ | refine g_then ?_ | refine g_in_normal ?_ | refine g_then_ret ?_ | refine g_in_ret ?_ | refine g_then_exit ?_ | refine g_in_exit rfl ?_ | refine g_in_exit_ne (by decide) ?_ | refine g_seq ?_ | refine g_region ?_ | refine g_block ?_ | refine g_ret ?_ | refine g_return_n ?_ | refine g_exit ?_ | refine g_skip ?_)
  refine g_hideR fun Q_ hQ_ => ?_
  refine o_lss rfl rfl ?_
  refine g_end (G.imp (hQ_ .normal _) ?_)
  clear hQ_ Q_
  try refine g_then ?_
  by_cases hin3 : i3 < n
  · first | refine g_seq (g_cond_t rfl (by first | rfl | (simp; done) | (simp; omega) | (simp; assumption)) ?_) | refine g_cond_t rfl (by first | rfl | (simp; done) | (simp; omega) | (simp; assumption)) ?_
    obtain ⟨x, hx⟩ : ∃ x, l[i3]? = some x := ⟨_, List.getElem?_eq_getElem (by omega)⟩
    have hft := filter_take (fun p => !rejP p) hx
    obtain ⟨rj, hrj⟩ : ∃ rj, rejP x = rj := ⟨_, rfl⟩
    have hrs := rejects_spec x
    rw [hrj] at hrs hft
    have hfu : us ++ (l.take (i3 + 1)).filter (fun p => !rejP p) = (us ++ (l.take i3).filter fun p => !rejP p) ++ if (!rj) = true then [x] else [] := by rw [hft, List.append_assoc]
    have hlu : (us ++ (l.take i3).filter fun p => !rejP p).length ≤ 20000 := by rw [List.length_append]; omega
    generalize (us ++ (l.take i3).filter fun p => !rejP p) = os at hfu hlu ⊢
    repeat (first | refine g_endt ?_ | refine g_end ?_ | refine g_then ?_ | refine g_in_normal ?_ | refine g_then_ret ?_ | refine g_in_ret ?_ | refine g_then_exit ?_ | refine g_in_exit rfl ?_ | refine g_in_exit_ne (by decide) ?_ | refine g_seq ?_ | refine g_region ?_ | refine g_block ?_ | refine g_ret ?_ | refine g_return_n ?_ | refine g_exit ?_ | refine g_skip ?_)
    repeat (first | refine g_endt ?_ | refine g_end ?_ | refine g_then ?_ | refine g_in_normal ?_ | refine g_then_ret ?_ | refine g_in_ret ?_ | refine g_then_exit ?_ | refine g_in_exit rfl ?_ | refine g_in_exit_ne (by decide) ?_ | refine g_seq ?_ | refine g_region ?_ | refine g_block ?_ | refine g_ret ?_ | refine g_return_n ?_ | refine g_exit ?_ | refine g_skip ?_)
    refine g_hideR fun Q_ hQ_ => ?_
    refine o_indexR (ys := l) (i := i3) rfl rfl rfl (by omega) hl rfl ?_
    refine o_loadE (ys := l) rfl rfl hx ?_
    refine o_alloc fun c14 => ?_
    refine o_store (v := x.val) rfl rfl rfl rfl rfl ?_
    refine g_end (G.imp (hQ_ .normal _) ?_)
    clear hQ_ Q_
    try refine g_then ?_
    refine G.norm c14 x.val.cells rfl ?_
    repeat (first | refine g_endt ?_ | refine g_end ?_ | refine g_then ?_ | refine g_in_normal ?_ | refine g_then_ret ?_ | refine g_in_ret ?_ | refine g_then_exit ?_ | refine g_in_exit rfl ?_ | refine g_in_exit_ne (by decide) ?_ | refine g_seq ?_ | refine g_region ?_ | refine g_block ?_ | refine g_ret ?_ | refine g_return_n ?_ | refine g_exit ?_ | refine g_skip ?_)
    refine g_hideR fun Q_ hQ_ => ?_
    refine o_loadN (v := x.val) rfl rfl rfl ?_
    refine o_call (hrs) rfl rfl ?_
    rintro _ _ ⟨rfl, rfl⟩
    refine o_not rfl ?_
    refine g_end (G.imp (hQ_ .normal _) ?_)
    clear hQ_ Q_
    try refine g_then ?_
    cases rj with
    | true =>
      rw [if_neg (by decide), List.append_nil] at hfu
      first | refine g_seq (g_cond_f rfl (by first | rfl | (simp; done) | (simp; omega) | (simp; assumption)) ?_) | refine g_cond_f rfl (by first | rfl | (simp; done) | (simp; omega) | (simp; assumption)) ?_
      repeat (first | refine g_endt ?_ | refine g_end ?_ | refine g_then ?_ | refine g_in_normal ?_ | refine g_then_ret ?_ | refine g_in_ret ?_ | refine g_then_exit ?_ | refine g_in_exit rfl ?_ | refine g_in_exit_ne (by decide) ?_ | refine g_seq ?_ | refine g_region ?_ | refine g_block ?_ | refine g_ret ?_ | refine g_return_n ?_ | refine g_exit ?_ | refine g_skip ?_)
      repeat (first | refine g_endt ?_ | refine g_end ?_ | refine g_then ?_ | refine g_in_normal ?_ | refine g_then_ret ?_ | refine g_in_ret ?_ | refine g_then_exit ?_ | refine g_in_exit rfl ?_ | refine g_in_exit_ne (by decide) ?_ | refine g_seq ?_ | refine g_region ?_ | refine g_block ?_ | refine g_ret ?_ | refine g_return_n ?_ | refine g_exit ?_ | refine g_skip ?_)
      refine g_hideR fun Q_ hQ_ => ?_
      refine o_add (c := ((i3 + 1 : Nat) : Int)) rfl rfl (by omega) (by omega) (by omega) ?_
      refine o_move ?_
      refine g_end (G.imp (hQ_ .normal _) ?_)
      clear hQ_ Q_
      try refine g_then ?_
      repeat (first | refine g_endt ?_ | refine g_end ?_ | refine g_then ?_ | refine g_in_normal ?_ | refine g_then_ret ?_ | refine g_in_ret ?_ | refine g_then_exit ?_ | refine g_in_exit rfl ?_ | refine g_in_exit_ne (by decide) ?_ | refine g_seq ?_ | refine g_region ?_ | refine g_block ?_ | refine g_ret ?_ | refine g_return_n ?_ | refine g_exit ?_ | refine g_skip ?_)
      exact g_meets ⟨(i3 + 1, S3, s3), hin3⟩ (by show n - (i3 + 1) < n - i3; omega) (Sat.mem ⟨rfl, rfl, by rw [hfu]; rfl, rfl, rfl, rfl, trivial⟩) (t := by
        show Take _ [mC m room a ps.length c0 mp, psl encP 16 a ps, MapASP mp zs, pslots zs ps, psl encP 16 A l, oP S3 s3 (us ++ (l.take (i3 + 1)).filter fun p => !rejP p)] _
        rw [hfu]; infer_instance)
    | false =>
      rw [if_pos (by decide)] at hfu
      first | refine g_seq (g_cond_t rfl (by first | rfl | (simp; done) | (simp; omega) | (simp; assumption)) ?_) | refine g_cond_t rfl (by first | rfl | (simp; done) | (simp; omega) | (simp; assumption)) ?_
      repeat (first | refine g_endt ?_ | refine g_end ?_ | refine g_then ?_ | refine g_in_normal ?_ | refine g_then_ret ?_ | refine g_in_ret ?_ | refine g_then_exit ?_ | refine g_in_exit rfl ?_ | refine g_in_exit_ne (by decide) ?_ | refine g_seq ?_ | refine g_region ?_ | refine g_block ?_ | refine g_ret ?_ | refine g_return_n ?_ | refine g_exit ?_ | refine g_skip ?_)
      refine g_hideR fun Q_ hQ_ => ?_
      refine o_move ?_
      refine o_loadN (v := x.val) rfl rfl rfl ?_
      refine o_litP (e := 41) encP [x] (x).val.cells (fun w => by kernel_rfl) (by simp [encP]) (by simp [maxLen]) fun _ => ?_
      refine o_append (xs := os) (ys := [x]) (by first | rfl | (simp only [List.length_map, List.length_take, List.length_append]; first | rfl | (congr 1; omega))) rfl rfl rfl rfl (fun _ => .inr trivial) (by simp [maxLen]; omega) (by simp; omega) fun S2 s2 => ?_
      refine o_assign ?_
      refine g_end (G.imp (hQ_ .normal _) ?_)
      clear hQ_ Q_
      try refine g_then ?_
      repeat (first | refine g_endt ?_ | refine g_end ?_ | refine g_then ?_ | refine g_in_normal ?_ | refine g_then_ret ?_ | refine g_in_ret ?_ | refine g_then_exit ?_ | refine g_in_exit rfl ?_ | refine g_in_exit_ne (by decide) ?_ | refine g_seq ?_ | refine g_region ?_ | refine g_block ?_ | refine g_ret ?_ | refine g_return_n ?_ | refine g_exit ?_ | refine g_skip ?_)
      repeat (first | refine g_endt ?_ | refine g_end ?_ | refine g_then ?_ | refine g_in_normal ?_ | refine g_then_ret ?_ | refine g_in_ret ?_ | refine g_then_exit ?_ | refine g_in_exit rfl ?_ | refine g_in_exit_ne (by decide) ?_ | refine g_seq ?_ | refine g_region ?_ | refine g_block ?_ | refine g_ret ?_ | refine g_return_n ?_ | refine g_exit ?_ | refine g_skip ?_)
      refine g_hideR fun Q_ hQ_ => ?_
      refine o_add (c := ((i3 + 1 : Nat) : Int)) rfl rfl (by omega) (by omega) (by omega) ?_
      refine o_move ?_
      refine g_end (G.imp (hQ_ .normal _) ?_)
      clear hQ_ Q_
      try refine g_then ?_
      repeat (first | refine g_endt ?_ | refine g_end ?_ | refine g_then ?_ | refine g_in_normal ?_ | refine g_then_ret ?_ | refine g_in_ret ?_ | refine g_then_exit ?_ | refine g_in_exit rfl ?_ | refine g_in_exit_ne (by decide) ?_ | refine g_seq ?_ | refine g_region ?_ | refine g_block ?_ | refine g_ret ?_ | refine g_return_n ?_ | refine g_exit ?_ | refine g_skip ?_)
      exact g_meets ⟨(i3 + 1, S2, s2), hin3⟩ (by show n - (i3 + 1) < n - i3; omega) (Sat.mem ⟨rfl, rfl, by rw [hfu, List.length_append]; rfl, rfl, rfl, rfl, trivial⟩) (t := by
        show Take _ [mC m room a ps.length c0 mp, psl encP 16 a ps, MapASP mp zs, pslots zs ps, psl encP 16 A l, oP S2 s2 (us ++ (l.take (i3 + 1)).filter fun p => !rejP p)] _
        rw [hfu]; infer_instance)
  first | refine g_seq (g_cond_f rfl (by simp; omega) ?_) | refine g_cond_f rfl (by simp; omega) ?_
  rw [List.take_of_length_le (by omega)] at hfl3 ⊢
  have hlen : (outP ps l).length ≤ 20000 := by rw [hout, List.length_append]; omega
  rw [← hout]
  by_cases hov : room < ((outP ps l).length : Int)
  · rw [addR_full hall hov]
    generalize outP ps l = os at hlen hov ⊢
    repeat (first | refine g_endt ?_ | refine g_end ?_ | refine g_then ?_ | refine g_in_normal ?_ | refine g_then_ret ?_ | refine g_in_ret ?_ | refine g_then_exit ?_ | refine g_in_exit rfl ?_ | refine g_in_exit_ne (by decide) ?_ | refine g_seq ?_ | refine g_region ?_ | refine g_block ?_ | refine g_ret ?_ | refine g_return_n ?_ | refine g_exit ?_ | refine g_skip ?_)
    refine g_hideR fun Q_ hQ_ => ?_
    refine o_move ?_
    refine o_len rfl rfl ?_
    refine o_move ?_
    refine o_nil rfl ?_
    first | refine o_field rfl ?_ | refine o_fieldR rfl (by omega) ?_
    refine o_load1 (v := .int .i64 room) rfl rfl ?_
    refine o_gtr rfl rfl ?_
    refine g_end (G.imp (hQ_ .normal _) ?_)
    clear hQ_ Q_
    try refine g_then ?_
    first | refine g_seq (g_cond_t rfl (by simpa using hov) ?_) | refine g_cond_t rfl (by simpa using hov) ?_
    refine shutMm m room ps a c0 mp zs hI rfl ?_
    repeat (first | refine g_endt ?_ | refine g_end ?_ | refine g_then ?_ | refine g_in_normal ?_ | refine g_then_ret ?_ | refine g_in_ret ?_ | refine g_then_exit ?_ | refine g_in_exit rfl ?_ | refine g_in_exit_ne (by decide) ?_ | refine g_seq ?_ | refine g_region ?_ | refine g_block ?_ | refine g_ret ?_ | refine g_return_n ?_ | refine g_exit ?_ | refine g_skip ?_)
    refine g_hideR fun Q_ hQ_ => ?_
    refine o_assign ?_
    refine g_end (G.imp (hQ_ .normal _) ?_)
    clear hQ_ Q_
    try refine g_then ?_
    repeat (first | refine g_endt ?_ | refine g_end ?_ | refine g_then ?_ | refine g_in_normal ?_ | refine g_then_ret ?_ | refine g_in_ret ?_ | refine g_then_exit ?_ | refine g_in_exit rfl ?_ | refine g_in_exit_ne (by decide) ?_ | refine g_seq ?_ | refine g_region ?_ | refine g_block ?_ | refine g_ret ?_ | refine g_return_n ?_ | refine g_exit ?_ | refine g_skip ?_)
    exact ret1 (K := [MemP m room ps]) rfl (resT (v := .int .i64 21) rfl) ⟨rfl, rfl⟩
  · rw [addR_ok hall hov]
    generalize outP ps l = os at hlen hov ⊢
    repeat (first | refine g_endt ?_ | refine g_end ?_ | refine g_then ?_ | refine g_in_normal ?_ | refine g_then_ret ?_ | refine g_in_ret ?_ | refine g_then_exit ?_ | refine g_in_exit rfl ?_ | refine g_in_exit_ne (by decide) ?_ | refine g_seq ?_ | refine g_region ?_ | refine g_block ?_ | refine g_ret ?_ | refine g_return_n ?_ | refine g_exit ?_ | refine g_skip ?_)
    refine g_hideR fun Q_ hQ_ => ?_
    refine o_move ?_
    refine o_len rfl rfl ?_
    refine o_move ?_
    refine o_nil rfl ?_
    first | refine o_field rfl ?_ | refine o_fieldR rfl (by omega) ?_
    refine o_load1 (v := .int .i64 room) rfl rfl ?_
    refine o_gtr rfl rfl ?_
    refine g_end (G.imp (hQ_ .normal _) ?_)
    clear hQ_ Q_
    try refine g_then ?_
    first | refine g_seq (g_cond_f rfl (by simpa using hov) ?_) | refine g_cond_f rfl (by simpa using hov) ?_
    refine G.bring [oP S3 s3 os] (G.frz ?_)
    repeat (first | refine g_endt ?_ | refine g_end ?_ | refine g_then ?_ | refine g_in_normal ?_ | refine g_then_ret ?_ | refine g_in_ret ?_ | refine g_then_exit ?_ | refine g_in_exit rfl ?_ | refine g_in_exit_ne (by decide) ?_ | refine g_seq ?_ | refine g_region ?_ | refine g_block ?_ | refine g_ret ?_ | refine g_return_n ?_ | refine g_exit ?_ | refine g_skip ?_)
    repeat (first | refine g_endt ?_ | refine g_end ?_ | refine g_then ?_ | refine g_in_normal ?_ | refine g_then_ret ?_ | refine g_in_ret ?_ | refine g_then_exit ?_ | refine g_in_exit rfl ?_ | refine g_in_exit_ne (by decide) ?_ | refine g_seq ?_ | refine g_region ?_ | refine g_block ?_ | refine g_ret ?_ | refine g_return_n ?_ | refine g_exit ?_ | refine g_skip ?_)
    refine g_hideR fun Q_ hQ_ => ?_
    refine o_move ?_
    refine o_move ?_
    refine o_call (set17_spec m room a ps.length c0 (some ⟨mp, 0, none⟩) S3 os.length s3 os rfl (by omega)) rfl rfl ?_
    rintro _ _ rfl
    refine g_end (G.imp (hQ_ .normal _) ?_)
    clear hQ_ Q_
    try refine g_then ?_
    repeat (first | refine g_endt ?_ | refine g_end ?_ | refine g_then ?_ | refine g_in_normal ?_ | refine g_then_ret ?_ | refine g_in_ret ?_ | refine g_then_exit ?_ | refine g_in_exit rfl ?_ | refine g_in_exit_ne (by decide) ?_ | refine g_seq ?_ | refine g_region ?_ | refine g_block ?_ | refine g_ret ?_ | refine g_return_n ?_ | refine g_exit ?_ | refine g_skip ?_)
    refine g_hideR fun Q_ hQ_ => ?_
    refine o_assign ?_
    refine g_end (G.imp (hQ_ .normal _) ?_)
    clear hQ_ Q_
    try refine g_then ?_
    repeat (first | refine g_endt ?_ | refine g_end ?_ | refine g_then ?_ | refine g_in_normal ?_ | refine g_then_ret ?_ | refine g_in_ret ?_ | refine g_then_exit ?_ | refine g_in_exit rfl ?_ | refine g_in_exit_ne (by decide) ?_ | refine g_seq ?_ | refine g_region ?_ | refine g_block ?_ | refine g_ret ?_ | refine g_return_n ?_ | refine g_exit ?_ | refine g_skip ?_)
    exact ret1 (K := [MemP m room os]) rfl (resT (v := .int .i64 0) rfl) ⟨rfl, rfl⟩
end Go.Proofs.YtonaccfoelgpnaaGreat
/- Numbers as keys. -/
namespace Go.Proofs.YtonaccfoelgpnaaGreat
open Go Go.Sl
attribute [local irreducible] Code.wpIn roundPost bodyPostM runL Ret Meets Begin

structure NumD where
  n : Int
def NumD.val (a : NumD) : Value := .int .i64 a.n
def NumD.cmp (a b : NumD) : Int := cmpI a.n b.n
def NumD.zero : NumD := ⟨0⟩
theorem linNum : LinCmp NumD.cmp := linI.pull NumD.n
theorem NumD.cmp_iff {a b : NumD} : a.cmp b = 0 ↔ a = b := ⟨fun h => by cases a; cases b; exact congrArg NumD.mk (cmpI_zero h), fun h => h ▸ linNum.refl a⟩
end Go.Proofs.YtonaccfoelgpnaaGreat
/- Numbers of instantiations as members. -/
namespace Go.Proofs.YtonaccfoelgpnaaGreat
open Go Go.Sl
attribute [local irreducible] Code.wpIn roundPost bodyPostM runL Ret Meets Begin

theorem ComparePn_spec (a b : NumD) : Ctr Tryz.prog 131 [a.val, b.val] [] (fun v M => v = .int .i64 (a.cmp b) ∧ M = []) := by
  refine spec_of Tryz.func131 rfl Tryz.ntmps131 rfl fun w0 F => ?_
  -- (ponder/pref.number).Compare
  repeat (first | refine g_endt ?_ | refine g_end ?_ | refine g_then ?_ | refine g_in_normal ?_ | refine g_then_ret ?_ | refine g_in_ret ?_ | refine g_then_exit ?_ | refine g_in_exit rfl ?_ | refine g_in_exit_ne (by decide) ?_ | refine g_seq ?_ | refine g_region ?_ | refine g_block ?_ | refine g_ret ?_ | refine g_return_n ?_ | refine g_exit ?_ | refine g_skip ?_)
  refine o_assign ?_
  first | refine g_endt ?_ | refine g_end ?_
  repeat (first | refine g_endt ?_ | refine g_end ?_ | refine g_then ?_ | refine g_in_normal ?_ | refine g_then_ret ?_ | refine g_in_ret ?_ | refine g_then_exit ?_ | refine g_in_exit rfl ?_ | refine g_in_exit_ne (by decide) ?_ | refine g_seq ?_ | refine g_region ?_ | refine g_block ?_ | refine g_ret ?_ | refine g_return_n ?_ | refine g_exit ?_ | refine g_skip ?_)
  refine o_move ?_
  refine o_move ?_
  refine o_lss (k := .i64) (a := a.n) (b := b.n) rfl rfl ?_
  refine o_assign ?_
  first | refine g_endt ?_ | refine g_end ?_
  by_cases h1 : a.n < b.n
  · first | refine g_seq (g_cond_t rfl (by simpa using h1) ?_) | refine g_cond_t rfl (by simpa using h1) ?_
    repeat (first | refine g_endt ?_ | refine g_end ?_ | refine g_then ?_ | refine g_in_normal ?_ | refine g_then_ret ?_ | refine g_in_ret ?_ | refine g_then_exit ?_ | refine g_in_exit rfl ?_ | refine g_in_exit_ne (by decide) ?_ | refine g_seq ?_ | refine g_region ?_ | refine g_block ?_ | refine g_ret ?_ | refine g_return_n ?_ | refine g_exit ?_ | refine g_skip ?_)
    refine o_assign ?_
    first | refine g_endt ?_ | refine g_end ?_
    repeat (first | refine g_endt ?_ | refine g_end ?_ | refine g_then ?_ | refine g_in_normal ?_ | refine g_then_ret ?_ | refine g_in_ret ?_ | refine g_then_exit ?_ | refine g_in_exit rfl ?_ | refine g_in_exit_ne (by decide) ?_ | refine g_seq ?_ | refine g_region ?_ | refine g_block ?_ | refine g_ret ?_ | refine g_return_n ?_ | refine g_exit ?_ | refine g_skip ?_)
    exact ret1 rfl (resT (v := .int .i64 (-1)) rfl) ⟨by simp [NumD.cmp, cmpI, h1], rfl⟩
  · first | refine g_seq (g_cond_f rfl (by simpa using h1) ?_) | refine g_cond_f rfl (by simpa using h1) ?_
    repeat (first | refine g_endt ?_ | refine g_end ?_ | refine g_then ?_ | refine g_in_normal ?_ | refine g_then_ret ?_ | refine g_in_ret ?_ | refine g_then_exit ?_ | refine g_in_exit rfl ?_ | refine g_in_exit_ne (by decide) ?_ | refine g_seq ?_ | refine g_region ?_ | refine g_block ?_ | refine g_ret ?_ | refine g_return_n ?_ | refine g_exit ?_ | refine g_skip ?_)
    refine o_move ?_
    refine o_move ?_
    refine o_gtr (k := .i64) (a := a.n) (b := b.n) rfl rfl ?_
    refine o_assign ?_
    first | refine g_endt ?_ | refine g_end ?_
    by_cases h2 : a.n > b.n
    · first | refine g_seq (g_cond_t rfl (by simpa using h2) ?_) | refine g_cond_t rfl (by simpa using h2) ?_
      repeat (first | refine g_endt ?_ | refine g_end ?_ | refine g_then ?_ | refine g_in_normal ?_ | refine g_then_ret ?_ | refine g_in_ret ?_ | refine g_then_exit ?_ | refine g_in_exit rfl ?_ | refine g_in_exit_ne (by decide) ?_ | refine g_seq ?_ | refine g_region ?_ | refine g_block ?_ | refine g_ret ?_ | refine g_return_n ?_ | refine g_exit ?_ | refine g_skip ?_)
      refine o_assign ?_
      first | refine g_endt ?_ | refine g_end ?_
      repeat (first | refine g_endt ?_ | refine g_end ?_ | refine g_then ?_ | refine g_in_normal ?_ | refine g_then_ret ?_ | refine g_in_ret ?_ | refine g_then_exit ?_ | refine g_in_exit rfl ?_ | refine g_in_exit_ne (by decide) ?_ | refine g_seq ?_ | refine g_region ?_ | refine g_block ?_ | refine g_ret ?_ | refine g_return_n ?_ | refine g_exit ?_ | refine g_skip ?_)
      exact ret1 rfl (resT (v := .int .i64 1) rfl) ⟨by simp [NumD.cmp, cmpI, h1, h2], rfl⟩
    · first | refine g_seq (g_cond_f rfl (by simpa using h2) ?_) | refine g_cond_f rfl (by simpa using h2) ?_
      repeat (first | refine g_endt ?_ | refine g_end ?_ | refine g_then ?_ | refine g_in_normal ?_ | refine g_then_ret ?_ | refine g_in_ret ?_ | refine g_then_exit ?_ | refine g_in_exit rfl ?_ | refine g_in_exit_ne (by decide) ?_ | refine g_seq ?_ | refine g_region ?_ | refine g_block ?_ | refine g_ret ?_ | refine g_return_n ?_ | refine g_exit ?_ | refine g_skip ?_)
      refine o_assign ?_
      first | refine g_endt ?_ | refine g_end ?_
      repeat (first | refine g_endt ?_ | refine g_end ?_ | refine g_then ?_ | refine g_in_normal ?_ | refine g_then_ret ?_ | refine g_in_ret ?_ | refine g_then_exit ?_ | refine g_in_exit rfl ?_ | refine g_in_exit_ne (by decide) ?_ | refine g_seq ?_ | refine g_region ?_ | refine g_block ?_ | refine g_ret ?_ | refine g_return_n ?_ | refine g_exit ?_ | refine g_skip ?_)
      exact ret1 rfl (resT (v := .int .i64 0) rfl) ⟨by simp [NumD.cmp, cmpI, h1, h2], rfl⟩
end Go.Proofs.YtonaccfoelgpnaaGreat
/- Members of an ordered set. -/
namespace Go.Proofs.YtonaccfoelgpnaaGreat
open Go Go.Sl

def NumD.enc (p : NumD) : List Value := p.val.cells.toList
def NumD.enc' (p : NumD) : List Value := [p.val]
instance : EncLen NumD.enc 1 := ⟨fun _ => rfl, fun e u h => by simp [NumD.enc, NumD.val, Value.cells] at h; rcases h with h <;> subst h <;> rfl⟩
theorem NumD.lin : LinCmp NumD.cmp := linNum
theorem NumD.cmp_spec (a b : NumD) : Ctr Tryz.prog 131 [a.val, b.val] [] (fun v M => v = .int .i64 (a.cmp b) ∧ M = []) := ComparePn_spec a b
end Go.Proofs.YtonaccfoelgpnaaGreat
/- An ordered set's functions, for one type of members: find, own. -/
namespace Go.Proofs.YtonaccfoelgpnaaGreat
open Go Go.Sl
attribute [local irreducible] Code.wpIn roundPost bodyPostM runL Ret Meets Begin

abbrev SetANP (p : Nat) (ys : List NumD) : SProp := SetP 125 98 NumD.enc 1 p ys
section
variable {w0 : World} {A : SProp} {L M : List SProp} {Φ : World → Prop}
theorem openNP (p : Nat) (ys : List NumD) [tk : Take1 L (SetANP p ys) M] (h : ∀ S c b, G w0 A (cellsB p #[.slice S ys.length c, .bool b] 125 :: row 98 NumD.enc 1 b S c ys :: M) Φ) : G w0 A L Φ := SetP.open h
theorem shutNP (p : Nat) (ys : List NumD) (S : Option Addr) (c : Nat) (b : Bool) {len : Nat} (hl : ys.length = len) [tk : Take L [cellsB p #[.slice S len c, .bool b] 125, row 98 NumD.enc 1 b S c ys] M] (h : G w0 A (SetANP p ys :: M) Φ) : G w0 A L Φ := SetP.shut (S := S) (c := c) (b := b) hl h
theorem shutFNP (p : Nat) (ys : List NumD) (S : Option Addr) (c : Nat) {len : Nat} (hl : ys.length = len) [tk : Take L [cellsB p #[.slice S len c, .bool false] 125, osl 98 NumD.enc 1 S c ys] M] (h : G w0 A (SetANP p ys :: M) Φ) : G w0 A L Φ := SetP.shut (S := S) (c := c) (b := false) hl (tk := tk) h
end
theorem findNP_spec (p : Nat) (ys : List NumD) (x : NumD) (hs : Srt NumD.cmp ys) (hl : ys.length ≤ 1000000000) : Ctr Tryz.prog 74 [.pointer (some ⟨p, 0, none⟩), x.val] [SetANP p ys]
    (fun v M => ∃ (k : Nat) (there : Bool), v = .tuple #[.int .i64 (k : Int), .bool there] ∧ M = [SetANP p ys] ∧ FindR NumD.cmp ys x k there) := by
  refine spec_of Tryz.func74 rfl Tryz.ntmps74 rfl fun w0 F => ?_
  repeat (first | refine g_endt ?_ | refine g_end ?_ | refine g_then ?_ | refine g_in_normal ?_ | refine g_then_ret ?_ | refine g_in_ret ?_ | refine g_then_exit ?_ | refine g_in_exit rfl ?_ | refine g_in_exit_ne (by decide) ?_ | refine g_seq ?_ | refine g_region ?_ | refine g_block ?_ | refine g_ret ?_ | refine g_return_n ?_ | refine g_exit ?_ | refine g_skip ?_)
  refine openNP p ys fun S c b => ?_
  refine o_assign ?_
  refine o_assign ?_
  first | refine g_endt ?_ | refine g_end ?_
  repeat (first | refine g_endt ?_ | refine g_end ?_ | refine g_then ?_ | refine g_in_normal ?_ | refine g_then_ret ?_ | refine g_in_ret ?_ | refine g_then_exit ?_ | refine g_in_exit rfl ?_ | refine g_in_exit_ne (by decide) ?_ | refine g_seq ?_ | refine g_region ?_ | refine g_block ?_ | refine g_ret ?_ | refine g_return_n ?_ | refine g_exit ?_ | refine g_skip ?_)
  refine g_draw [] [0,1,2,3,4,5,6] [cellsB p #[.slice S ys.length c, .bool b] 125] mixed rfl ?_
  refine ob_q rfl rfl ⟨_, fun X Q h => o_move (g_end (h _ _ ⟨rfl, rfl⟩)), ?_⟩
  refine ob_q rfl rfl ⟨_, fun X Q h => o_nil rfl (g_end (h _ _ ⟨rfl, rfl⟩)), ?_⟩
  refine ob_q rfl rfl ⟨_, fun X Q h => o_field rfl (g_end (h _ _ ⟨rfl, rfl⟩)), ?_⟩
  refine ob_q rfl rfl ⟨_, fun X Q h => o_load1 rfl rfl (g_end (h _ _ ⟨rfl, rfl⟩)), ?_⟩
  refine ob_q rfl rfl ⟨_, fun X Q h => o_len rfl rfl (g_end (h _ _ ⟨rfl, rfl⟩)), ?_⟩
  refine ob_q rfl rfl ⟨_, fun X Q h => o_assign (g_end (h _ _ ⟨rfl, rfl⟩)), ?_⟩
  refine ob_q rfl rfl ⟨_, fun X Q h => o_assign (g_end (h _ _ ⟨rfl, rfl⟩)), ?_⟩
  refine ob_nil ?_
  repeat (first | refine g_endt ?_ | refine g_end ?_ | refine g_then ?_ | refine g_in_normal ?_ | refine g_then_ret ?_ | refine g_in_ret ?_ | refine g_then_exit ?_ | refine g_in_exit rfl ?_ | refine g_in_exit_ne (by decide) ?_ | refine g_seq ?_ | refine g_region ?_ | refine g_block ?_ | refine g_ret ?_ | refine g_return_n ?_ | refine g_exit ?_ | refine g_skip ?_)
  refine g_loop (σ := {s : Nat × Nat // s.1 ≤ s.2 ∧ s.2 ≤ ys.length ∧ (∀ (j : Nat) (y : NumD), j < s.1 → ys[j]? = some y → NumD.cmp y x < 0) ∧ ∀ (j : Nat) (y : NumD), s.2 ≤ j → ys[j]? = some y → 0 < NumD.cmp y x})
    (S := fun s => [(0, .pointer (some ⟨p, 0, none⟩)), (1, x.val), (6, .int .i64 (s.1.1 : Int)), (7, .int .i64 (s.1.2 : Int))])
    (H := fun _ => [cellsB p #[.slice S ys.length c, .bool b] 125, row 98 NumD.enc 1 b S c ys]) (μ := fun s => s.1.2 - s.1.1)
    (s0 := ⟨(0, ys.length), Nat.zero_le _, Nat.le_refl _, fun j y h => absurd h (Nat.not_lt_zero j), fun j y h e => by rw [List.getElem?_eq_none h] at e; cases e⟩) (Sat.mem ⟨rfl, rfl, rfl, rfl, trivial⟩) ?_
  rintro ⟨⟨lo, hi⟩, h1, h2, h3, h4⟩ ρ'
  dsimp only at h1 h2 h3 h4 ⊢
  repeat (first | refine g_endt ?_ | refine g_end ?_ | refine g_then ?_ | refine g_in_normal ?_ | refine g_then_ret ?_ | refine g_in_ret ?_ | refine g_then_exit ?_ | refine g_in_exit rfl ?_ | refine g_in_exit_ne (by decide) ?_ | refine g_seq ?_ | refine g_region ?_ | refine g_block ?_ | refine g_ret ?_ | refine g_return_n ?_ | refine g_exit ?_ | refine g_skip ?_)
  refine o_move ?_
  refine o_move ?_
  refine o_lss rfl rfl ?_
  first | refine g_endt ?_ | refine g_end ?_
  by_cases h : lo < hi
  · first | refine g_seq (g_cond_t rfl (by simpa using h) ?_) | refine g_cond_t rfl (by simpa using h) ?_
    repeat (first | refine g_endt ?_ | refine g_end ?_ | refine g_then ?_ | refine g_in_normal ?_ | refine g_then_ret ?_ | refine g_in_ret ?_ | refine g_then_exit ?_ | refine g_in_exit rfl ?_ | refine g_in_exit_ne (by decide) ?_ | refine g_seq ?_ | refine g_region ?_ | refine g_block ?_ | refine g_ret ?_ | refine g_return_n ?_ | refine g_exit ?_ | refine g_skip ?_)
    refine o_move ?_
    refine o_move ?_
    refine o_move ?_
    refine o_sub (c := ((hi - lo : Nat) : Int)) rfl rfl (by omega) (by omega) (by omega) ?_
    refine o_quo (c := (((hi - lo) / 2 : Nat) : Int)) rfl rfl (by decide) (by rw [Int.tdiv_eq_ediv_of_nonneg (by omega)]; omega) (by omega) (by omega) ?_
    refine o_add (c := ((lo + (hi - lo) / 2 : Nat) : Int)) rfl rfl (by omega) (by omega) (by omega) ?_
    generalize hmid : lo + (hi - lo) / 2 = mid
    have hm1 : lo ≤ mid := by omega
    have hm2 : mid < hi := by omega
    have hm3 : mid < ys.length := by omega
    obtain ⟨y, hy⟩ : ∃ y, ys[mid]? = some y := ⟨_, List.getElem?_eq_getElem hm3⟩
    refine o_assign ?_
    refine g_endt ?_
    repeat (first | refine g_endt ?_ | refine g_end ?_ | refine g_then ?_ | refine g_in_normal ?_ | refine g_then_ret ?_ | refine g_in_ret ?_ | refine g_then_exit ?_ | refine g_in_exit rfl ?_ | refine g_in_exit_ne (by decide) ?_ | refine g_seq ?_ | refine g_region ?_ | refine g_block ?_ | refine g_ret ?_ | refine g_return_n ?_ | refine g_exit ?_ | refine g_skip ?_)
    refine o_move ?_
    refine o_nil rfl ?_
    refine o_field rfl ?_
    refine o_load1 (v := .slice S ys.length c) rfl rfl ?_
    refine o_move ?_
    refine o_indexR (ys := ys) (i := mid) rfl rfl rfl hm3 rfl rfl ?_
    refine o_loadE0 (ys := ys) (v := y.val) rfl hy rfl ?_
    refine o_iface (u := y.val) rfl (fun w => by kernel_rfl) ?_
    refine o_move ?_
    refine o_invoke (NumD.cmp_spec y x) rfl rfl (fun w => by kernel_rfl) ?_
    rintro _ _ ⟨rfl, rfl⟩
    refine o_assign ?_
    refine g_endt ?_
    repeat (first | refine g_endt ?_ | refine g_end ?_ | refine g_then ?_ | refine g_in_normal ?_ | refine g_then_ret ?_ | refine g_in_ret ?_ | refine g_then_exit ?_ | refine g_in_exit rfl ?_ | refine g_in_exit_ne (by decide) ?_ | refine g_seq ?_ | refine g_region ?_ | refine g_block ?_ | refine g_ret ?_ | refine g_return_n ?_ | refine g_exit ?_ | refine g_skip ?_)
    refine o_move ?_
    refine o_eql rfl rfl ?_
    first | refine g_endt ?_ | refine g_end ?_
    by_cases hc : NumD.cmp y x = 0
    · first | refine g_seq (g_cond_t rfl (by simpa using hc) ?_) | refine g_cond_t rfl (by simpa using hc) ?_
      repeat (first | refine g_endt ?_ | refine g_end ?_ | refine g_then ?_ | refine g_in_normal ?_ | refine g_then_ret ?_ | refine g_in_ret ?_ | refine g_then_exit ?_ | refine g_in_exit rfl ?_ | refine g_in_exit_ne (by decide) ?_ | refine g_seq ?_ | refine g_region ?_ | refine g_block ?_ | refine g_ret ?_ | refine g_return_n ?_ | refine g_exit ?_ | refine g_skip ?_)
      refine o_move ?_
      refine o_assign ?_
      refine o_assign ?_
      first | refine g_endt ?_ | refine g_end ?_
      refine shutNP p ys S c b rfl ?_
      repeat (first | refine g_endt ?_ | refine g_end ?_ | refine g_then ?_ | refine g_in_normal ?_ | refine g_then_ret ?_ | refine g_in_ret ?_ | refine g_then_exit ?_ | refine g_in_exit rfl ?_ | refine g_in_exit_ne (by decide) ?_ | refine g_seq ?_ | refine g_region ?_ | refine g_block ?_ | refine g_ret ?_ | refine g_return_n ?_ | refine g_exit ?_ | refine g_skip ?_)
      exact ret2 rfl (resT rfl) (resT rfl) ⟨mid, true, rfl, rfl, by omega, fun _ => ⟨y, hy, hc⟩, fun e => by cases e⟩
    · first | refine g_seq (g_cond_f rfl (by simpa using hc) ?_) | refine g_cond_f rfl (by simpa using hc) ?_
      repeat (first | refine g_endt ?_ | refine g_end ?_ | refine g_then ?_ | refine g_in_normal ?_ | refine g_then_ret ?_ | refine g_in_ret ?_ | refine g_then_exit ?_ | refine g_in_exit rfl ?_ | refine g_in_exit_ne (by decide) ?_ | refine g_seq ?_ | refine g_region ?_ | refine g_block ?_ | refine g_ret ?_ | refine g_return_n ?_ | refine g_exit ?_ | refine g_skip ?_)
      refine o_move ?_
      refine o_lss rfl rfl ?_
      first | refine g_endt ?_ | refine g_end ?_
      by_cases hn : NumD.cmp y x < 0
      · first | refine g_seq (g_cond_t rfl (by simpa using hn) ?_) | refine g_cond_t rfl (by simpa using hn) ?_
        repeat (first | refine g_endt ?_ | refine g_end ?_ | refine g_then ?_ | refine g_in_normal ?_ | refine g_then_ret ?_ | refine g_in_ret ?_ | refine g_then_exit ?_ | refine g_in_exit rfl ?_ | refine g_in_exit_ne (by decide) ?_ | refine g_seq ?_ | refine g_region ?_ | refine g_block ?_ | refine g_ret ?_ | refine g_return_n ?_ | refine g_exit ?_ | refine g_skip ?_)
        refine o_move ?_
        refine o_add (c := ((mid + 1 : Nat) : Int)) rfl rfl (by omega) (by omega) (by omega) ?_
        refine o_assign ?_
        first | refine g_endt ?_ | refine g_end ?_
        repeat (first | refine g_endt ?_ | refine g_end ?_ | refine g_then ?_ | refine g_in_normal ?_ | refine g_then_ret ?_ | refine g_in_ret ?_ | refine g_then_exit ?_ | refine g_in_exit rfl ?_ | refine g_in_exit_ne (by decide) ?_ | refine g_seq ?_ | refine g_region ?_ | refine g_block ?_ | refine g_ret ?_ | refine g_return_n ?_ | refine g_exit ?_ | refine g_skip ?_)
        refine g_meets ⟨(mid + 1, hi), by show mid + 1 ≤ hi; omega, h2, fun j y' hj hy' => ?_, h4⟩ (by show hi - (mid + 1) < hi - lo; omega) (Sat.mem ⟨rfl, rfl, rfl, rfl, trivial⟩)
        by_cases e : j = mid
        · subst e; rw [hy] at hy'; cases hy'; exact hn
        · exact NumD.lin.trans _ _ _ (hs j mid y' y (by dsimp only at hj; omega) hy' hy) hn
      · first | refine g_seq (g_cond_f rfl (by simpa using hn) ?_) | refine g_cond_f rfl (by simpa using hn) ?_
        repeat (first | refine g_endt ?_ | refine g_end ?_ | refine g_then ?_ | refine g_in_normal ?_ | refine g_then_ret ?_ | refine g_in_ret ?_ | refine g_then_exit ?_ | refine g_in_exit rfl ?_ | refine g_in_exit_ne (by decide) ?_ | refine g_seq ?_ | refine g_region ?_ | refine g_block ?_ | refine g_ret ?_ | refine g_return_n ?_ | refine g_exit ?_ | refine g_skip ?_)
        refine o_move ?_
        refine o_assign ?_
        first | refine g_endt ?_ | refine g_end ?_
        repeat (first | refine g_endt ?_ | refine g_end ?_ | refine g_then ?_ | refine g_in_normal ?_ | refine g_then_ret ?_ | refine g_in_ret ?_ | refine g_then_exit ?_ | refine g_in_exit rfl ?_ | refine g_in_exit_ne (by decide) ?_ | refine g_seq ?_ | refine g_region ?_ | refine g_block ?_ | refine g_ret ?_ | refine g_return_n ?_ | refine g_exit ?_ | refine g_skip ?_)
        refine g_meets ⟨(lo, mid), hm1, by show mid ≤ ys.length; omega, h3, fun j y' hj hy' => ?_⟩ (by show mid - lo < hi - lo; omega) (Sat.mem ⟨rfl, rfl, rfl, rfl, trivial⟩)
        by_cases e : j = mid
        · subst e; rw [hy] at hy'; cases hy'; omega
        · have h5 := hs mid j y y' (by dsimp only at hj; omega) hy hy'
          have h6 := NumD.lin.swap x y
          have h7 := NumD.lin.trans x y y' (by omega) h5
          have h8 := NumD.lin.swap x y'
          omega
  · first | refine g_seq (g_cond_f rfl (by simpa using h) ?_) | refine g_cond_f rfl (by simpa using h) ?_
    have e : lo = hi := by omega
    subst e
    repeat (first | refine g_endt ?_ | refine g_end ?_ | refine g_then ?_ | refine g_in_normal ?_ | refine g_then_ret ?_ | refine g_in_ret ?_ | refine g_then_exit ?_ | refine g_in_exit rfl ?_ | refine g_in_exit_ne (by decide) ?_ | refine g_seq ?_ | refine g_region ?_ | refine g_block ?_ | refine g_ret ?_ | refine g_return_n ?_ | refine g_exit ?_ | refine g_skip ?_)
    refine o_move ?_
    refine o_assign ?_
    refine o_assign ?_
    first | refine g_endt ?_ | refine g_end ?_
    refine shutNP p ys S c b rfl ?_
    repeat (first | refine g_endt ?_ | refine g_end ?_ | refine g_then ?_ | refine g_in_normal ?_ | refine g_then_ret ?_ | refine g_in_ret ?_ | refine g_then_exit ?_ | refine g_in_exit rfl ?_ | refine g_in_exit_ne (by decide) ?_ | refine g_seq ?_ | refine g_region ?_ | refine g_block ?_ | refine g_ret ?_ | refine g_return_n ?_ | refine g_exit ?_ | refine g_skip ?_)
    exact ret2 rfl (resT rfl) (resT rfl) ⟨lo, false, rfl, rfl, h2, fun e => (by cases e), fun _ => ⟨h3, h4⟩⟩
end Go.Proofs.YtonaccfoelgpnaaGreat
/- An ordered set's functions, for one type of members: own, Put. -/
namespace Go.Proofs.YtonaccfoelgpnaaGreat
open Go Go.Sl
attribute [local irreducible] Code.wpIn roundPost bodyPostM runL Ret Meets Begin

theorem ownNP_spec (p : Nat) (ys : List NumD) (hl : ys.length ≤ 1000000000) : Ctr Tryz.prog 75 [.pointer (some ⟨p, 0, none⟩)] [SetANP p ys]
    (fun _ M => ∃ (S : Option Addr) (c : Nat), M = [cellsB p #[.slice S ys.length c, .bool false] 125, osl 98 NumD.enc 1 S c ys]) := by
  refine spec_of Tryz.func75 rfl Tryz.ntmps75 rfl fun w0 F => ?_
  repeat (first | refine g_endt ?_ | refine g_end ?_ | refine g_then ?_ | refine g_in_normal ?_ | refine g_then_ret ?_ | refine g_in_ret ?_ | refine g_then_exit ?_ | refine g_in_exit rfl ?_ | refine g_in_exit_ne (by decide) ?_ | refine g_seq ?_ | refine g_region ?_ | refine g_block ?_ | refine g_ret ?_ | refine g_return_n ?_ | refine g_exit ?_ | refine g_skip ?_)
  refine openNP p ys fun S c b => ?_
  refine o_move ?_
  refine o_nil rfl ?_
  refine o_field rfl ?_
  refine o_load1 (v := .bool b) rfl rfl ?_
  refine g_endt ?_
  cases b
  · first | refine g_seq (g_cond_f rfl (rfl) ?_) | refine g_cond_f rfl (rfl) ?_
    change G _ _ [cellsB p #[.slice S ys.length c, .bool false] 125, osl 98 NumD.enc 1 S c ys] _
    repeat (first | refine g_endt ?_ | refine g_end ?_ | refine g_then ?_ | refine g_in_normal ?_ | refine g_then_ret ?_ | refine g_in_ret ?_ | refine g_then_exit ?_ | refine g_in_exit rfl ?_ | refine g_in_exit_ne (by decide) ?_ | refine g_seq ?_ | refine g_region ?_ | refine g_block ?_ | refine g_ret ?_ | refine g_return_n ?_ | refine g_exit ?_ | refine g_skip ?_)
    exact ret0 rfl ⟨S, c, rfl⟩
  · first | refine g_seq (g_cond_t rfl (rfl) ?_) | refine g_cond_t rfl (rfl) ?_
    change G _ _ [cellsB p #[.slice S ys.length c, .bool true] 125, psl NumD.enc 1 S ys] _
    repeat (first | refine g_endt ?_ | refine g_end ?_ | refine g_then ?_ | refine g_in_normal ?_ | refine g_then_ret ?_ | refine g_in_ret ?_ | refine g_then_exit ?_ | refine g_in_exit rfl ?_ | refine g_in_exit_ne (by decide) ?_ | refine g_seq ?_ | refine g_region ?_ | refine g_block ?_ | refine g_ret ?_ | refine g_return_n ?_ | refine g_exit ?_ | refine g_skip ?_)
    refine g_draw [7, 12, 15] [0,1,2,3,4,5,6,8,9,10,11,7,12,13,14,15] [cellsB p #[.slice S ys.length c, .bool true] 125, psl NumD.enc 1 S ys] mixed rfl ?_
    refine ob_q rfl rfl ⟨_, fun X Q h => o_move (g_end (h _ _ ⟨rfl, rfl⟩)), ?_⟩
    refine ob_q rfl rfl ⟨_, fun X Q h => o_move (g_end (h _ _ ⟨rfl, rfl⟩)), ?_⟩
    refine ob_q rfl rfl ⟨_, fun X Q h => o_nil rfl (g_end (h _ _ ⟨rfl, rfl⟩)), ?_⟩
    refine ob_q rfl rfl ⟨_, fun X Q h => o_field rfl (g_end (h _ _ ⟨rfl, rfl⟩)), ?_⟩
    refine ob_q rfl rfl ⟨_, fun X Q h => o_load1 (v := .slice S ys.length c) rfl rfl (g_end (h _ _ ⟨rfl, rfl⟩)), ?_⟩
    refine ob_q rfl rfl ⟨_, fun X Q h => o_len rfl rfl (g_end (h _ _ ⟨rfl, rfl⟩)), ?_⟩
    refine ob_q rfl rfl ⟨_, fun X Q h => o_add (c := ((ys.length + 1 : Nat) : Int)) rfl rfl (by omega) (by omega) (by omega) (g_end (h _ _ ⟨rfl, rfl⟩)), ?_⟩
    refine ob_q rfl rfl ⟨_, fun X Q h => o_move (g_end (h _ _ ⟨rfl, rfl⟩)), ?_⟩
    refine ob_q rfl rfl ⟨_, fun X Q h => o_nil rfl (g_end (h _ _ ⟨rfl, rfl⟩)), ?_⟩
    refine ob_q rfl rfl ⟨_, fun X Q h => o_field rfl (g_end (h _ _ ⟨rfl, rfl⟩)), ?_⟩
    refine ob_q rfl rfl ⟨_, fun X Q h => o_load1 (v := .slice S ys.length c) rfl rfl (g_end (h _ _ ⟨rfl, rfl⟩)), ?_⟩
    refine ob_l rfl rfl fun Qz hz => o_make0 (α := NumD) (enc := NumD.enc) rfl rfl rfl (by omega) (by simp [maxLen]; omega) fun T => g_end (hz _ _ ⟨_, ob_fin, ?_⟩)
    clear hz Qz
    refine ob_l rfl rfl fun Qz hz => o_append0 (ys := ys) rfl rfl rfl rfl rfl (by simp [maxLen]; omega) (by omega) fun U d => g_end (hz _ _ ⟨_, ob_fin, ?_⟩)
    clear hz Qz
    refine ob_q rfl rfl ⟨_, fun X Q h => o_nil rfl (g_end (h _ _ ⟨rfl, rfl⟩)), ?_⟩
    refine ob_q rfl rfl ⟨_, fun X Q h => o_field rfl (g_end (h _ _ ⟨rfl, rfl⟩)), ?_⟩
    refine ob_s ([]) rfl rfl rfl fun Qz hz => o_store (v := .slice U ys.length d) rfl rfl rfl rfl rfl <| g_end (hz _ _ ⟨_, ob_fin, ?_⟩)
    clear hz Qz
    refine ob_nil ?_
    repeat (first | refine g_endt ?_ | refine g_end ?_ | refine g_then ?_ | refine g_in_normal ?_ | refine g_then_ret ?_ | refine g_in_ret ?_ | refine g_then_exit ?_ | refine g_in_exit rfl ?_ | refine g_in_exit_ne (by decide) ?_ | refine g_seq ?_ | refine g_region ?_ | refine g_block ?_ | refine g_ret ?_ | refine g_return_n ?_ | refine g_exit ?_ | refine g_skip ?_)
    refine o_move ?_
    refine o_nil rfl ?_
    refine o_field rfl ?_
    refine o_store rfl rfl rfl rfl rfl ?_
    first | refine g_endt ?_ | refine g_end ?_
    repeat (first | refine g_endt ?_ | refine g_end ?_ | refine g_then ?_ | refine g_in_normal ?_ | refine g_then_ret ?_ | refine g_in_ret ?_ | refine g_then_exit ?_ | refine g_in_exit rfl ?_ | refine g_in_exit_ne (by decide) ?_ | refine g_seq ?_ | refine g_region ?_ | refine g_block ?_ | refine g_ret ?_ | refine g_return_n ?_ | refine g_exit ?_ | refine g_skip ?_)
    refine G.norm p #[.slice U ys.length d, .bool false] rfl ?_
    exact ret0 rfl ⟨U, d, rfl⟩
end Go.Proofs.YtonaccfoelgpnaaGreat
/- An ordered set's functions, for one type of members: Put. -/
namespace Go.Proofs.YtonaccfoelgpnaaGreat
open Go Go.Sl
attribute [local irreducible] Code.wpIn roundPost bodyPostM runL Ret Meets Begin

theorem take_snocPNP {α : Type} (ys : List α) (i : Nat) (y : α) (h : ys[i]? = some y) : ys.take (i + 1) = ys.take i ++ [y] := by rw [List.take_add_one, h]; rfl
theorem gapNP (ys : List NumD) (i : Nat) (w y : NumD) (hi : i < ys.length) (hy : ys[i]? = some y) : (ys.take (i + 1) ++ w :: ys.drop (i + 1)).set (i + 1) y = ys.take i ++ y :: ys.drop i := by
  have h1 : (ys.take (i + 1)).length = i + 1 := by simp; omega
  have h2 : ys.drop i = y :: ys.drop (i + 1) := by
    rw [List.drop_eq_getElem_cons hi]
    rw [List.getElem?_eq_getElem hi] at hy
    cases hy
    rfl
  rw [List.set_append_right _ _ (by omega), h1, Nat.sub_self, List.set_cons_zero, take_snocPNP ys i y hy, h2]
  simp
theorem PutNP_spec (p : Nat) (ys : List NumD) (x : NumD) (hs : Srt NumD.cmp ys) (hl : ys.length < 1000000000) : Ctr Tryz.prog 46 [.pointer (some ⟨p, 0, none⟩), x.val] [SetANP p ys]
    (fun v M => ∃ (k : Nat) (there : Bool), v = .bool !there ∧ M = [SetANP p (cond there ys (ys.take k ++ x :: ys.drop k))] ∧ FindR NumD.cmp ys x k there) := by
  refine spec_of Tryz.func46 rfl Tryz.ntmps46 rfl fun w0 F => ?_
  repeat (first | refine g_endt ?_ | refine g_end ?_ | refine g_then ?_ | refine g_in_normal ?_ | refine g_then_ret ?_ | refine g_in_ret ?_ | refine g_then_exit ?_ | refine g_in_exit rfl ?_ | refine g_in_exit_ne (by decide) ?_ | refine g_seq ?_ | refine g_region ?_ | refine g_block ?_ | refine g_ret ?_ | refine g_return_n ?_ | refine g_exit ?_ | refine g_skip ?_)
  refine o_assign ?_
  first | refine g_endt ?_ | refine g_end ?_
  repeat (first | refine g_endt ?_ | refine g_end ?_ | refine g_then ?_ | refine g_in_normal ?_ | refine g_then_ret ?_ | refine g_in_ret ?_ | refine g_then_exit ?_ | refine g_in_exit rfl ?_ | refine g_in_exit_ne (by decide) ?_ | refine g_seq ?_ | refine g_region ?_ | refine g_block ?_ | refine g_ret ?_ | refine g_return_n ?_ | refine g_exit ?_ | refine g_skip ?_)
  refine o_move ?_
  refine o_peql rfl ?_
  first | refine g_endt ?_ | refine g_end ?_
  first | refine g_seq (g_cond_f rfl (rfl) ?_) | refine g_cond_f rfl (rfl) ?_
  repeat (first | refine g_endt ?_ | refine g_end ?_ | refine g_then ?_ | refine g_in_normal ?_ | refine g_then_ret ?_ | refine g_in_ret ?_ | refine g_then_exit ?_ | refine g_in_exit rfl ?_ | refine g_in_exit_ne (by decide) ?_ | refine g_seq ?_ | refine g_region ?_ | refine g_block ?_ | refine g_ret ?_ | refine g_return_n ?_ | refine g_exit ?_ | refine g_skip ?_)
  refine o_move ?_
  refine o_move ?_
  refine o_call (findNP_spec p ys x hs (by omega)) rfl rfl ?_
  rintro _ _ ⟨k, there, rfl, rfl, hk⟩
  refine o_move ?_
  refine o_extract rfl rfl ?_
  refine o_extract rfl rfl ?_
  refine o_assign ?_
  refine o_assign ?_
  first | refine g_endt ?_ | refine g_end ?_
  repeat (first | refine g_endt ?_ | refine g_end ?_ | refine g_then ?_ | refine g_in_normal ?_ | refine g_then_ret ?_ | refine g_in_ret ?_ | refine g_then_exit ?_ | refine g_in_exit rfl ?_ | refine g_in_exit_ne (by decide) ?_ | refine g_seq ?_ | refine g_region ?_ | refine g_block ?_ | refine g_ret ?_ | refine g_return_n ?_ | refine g_exit ?_ | refine g_skip ?_)
  refine o_move ?_
  refine g_endt ?_
  cases there
  case true =>
    first | refine g_seq (g_cond_t rfl (rfl) ?_) | refine g_cond_t rfl (rfl) ?_
    repeat (first | refine g_endt ?_ | refine g_end ?_ | refine g_then ?_ | refine g_in_normal ?_ | refine g_then_ret ?_ | refine g_in_ret ?_ | refine g_then_exit ?_ | refine g_in_exit rfl ?_ | refine g_in_exit_ne (by decide) ?_ | refine g_seq ?_ | refine g_region ?_ | refine g_block ?_ | refine g_ret ?_ | refine g_return_n ?_ | refine g_exit ?_ | refine g_skip ?_)
    refine o_assign ?_
    first | refine g_endt ?_ | refine g_end ?_
    repeat (first | refine g_endt ?_ | refine g_end ?_ | refine g_then ?_ | refine g_in_normal ?_ | refine g_then_ret ?_ | refine g_in_ret ?_ | refine g_then_exit ?_ | refine g_in_exit rfl ?_ | refine g_in_exit_ne (by decide) ?_ | refine g_seq ?_ | refine g_region ?_ | refine g_block ?_ | refine g_ret ?_ | refine g_return_n ?_ | refine g_exit ?_ | refine g_skip ?_)
    exact ret1 (K := [SetANP p ys]) rfl (resT rfl) ⟨k, true, rfl, rfl, hk⟩
  first | refine g_seq (g_cond_f rfl (rfl) ?_) | refine g_cond_f rfl (rfl) ?_
  repeat (first | refine g_endt ?_ | refine g_end ?_ | refine g_then ?_ | refine g_in_normal ?_ | refine g_then_ret ?_ | refine g_in_ret ?_ | refine g_then_exit ?_ | refine g_in_exit rfl ?_ | refine g_in_exit_ne (by decide) ?_ | refine g_seq ?_ | refine g_region ?_ | refine g_block ?_ | refine g_ret ?_ | refine g_return_n ?_ | refine g_exit ?_ | refine g_skip ?_)
  refine o_move ?_
  refine o_call (ownNP_spec p ys (by omega)) rfl rfl ?_
  rintro _ _ ⟨S, c, rfl⟩
  refine g_endt ?_
  repeat (first | refine g_endt ?_ | refine g_end ?_ | refine g_then ?_ | refine g_in_normal ?_ | refine g_then_ret ?_ | refine g_in_ret ?_ | refine g_then_exit ?_ | refine g_in_exit rfl ?_ | refine g_in_exit_ne (by decide) ?_ | refine g_seq ?_ | refine g_region ?_ | refine g_block ?_ | refine g_ret ?_ | refine g_return_n ?_ | refine g_exit ?_ | refine g_skip ?_)
  refine o_move ?_
  refine o_move ?_
  refine o_nil rfl ?_
  refine o_field rfl ?_
  refine o_load1 (v := .slice S ys.length c) rfl rfl ?_
  refine o_move ?_
  refine o_slice_lit (e := 98) x.val.cells (fun w => by kernel_rfl) fun g => G.lit_slice (enc := NumD.enc) (sz := 1) [x] (by simp [NumD.enc]) (by simp [maxLen]) <| G.freeze_slice <| ?_
  refine o_append (xs := ys) (ys := [x]) rfl rfl rfl rfl rfl (fun _ => .inr trivial) (by simp [maxLen]; omega) (by simp; omega) fun U d => ?_
  refine o_nil rfl ?_
  refine o_field rfl ?_
  refine o_store (v := .slice U (ys.length + 1) d) rfl rfl rfl rfl rfl ?_
  refine g_endt ?_
  refine G.norm p #[.slice U (ys.length + 1) d, .bool false] rfl ?_
  repeat (first | refine g_endt ?_ | refine g_end ?_ | refine g_then ?_ | refine g_in_normal ?_ | refine g_then_ret ?_ | refine g_in_ret ?_ | refine g_then_exit ?_ | refine g_in_exit rfl ?_ | refine g_in_exit_ne (by decide) ?_ | refine g_seq ?_ | refine g_region ?_ | refine g_block ?_ | refine g_ret ?_ | refine g_return_n ?_ | refine g_exit ?_ | refine g_skip ?_)
  refine o_move ?_
  refine o_nil rfl ?_
  refine o_field rfl ?_
  refine o_load1 (v := .slice U (ys.length + 1) d) rfl rfl ?_
  refine o_len rfl rfl ?_
  refine o_sub (c := ((ys.length : Nat) : Int)) rfl rfl (by omega) (by omega) (by omega) ?_
  refine o_assign ?_
  refine g_endt ?_
  repeat (first | refine g_endt ?_ | refine g_end ?_ | refine g_then ?_ | refine g_in_normal ?_ | refine g_then_ret ?_ | refine g_in_ret ?_ | refine g_then_exit ?_ | refine g_in_exit rfl ?_ | refine g_in_exit_ne (by decide) ?_ | refine g_seq ?_ | refine g_region ?_ | refine g_block ?_ | refine g_ret ?_ | refine g_return_n ?_ | refine g_exit ?_ | refine g_skip ?_)
  have hk1 : k ≤ ys.length := hk.1
  refine g_loop (σ := {s : Nat × NumD // k ≤ s.1 ∧ s.1 ≤ ys.length})
    (S := fun s => [(0, .pointer (some ⟨p, 0, none⟩)), (1, x.val), (5, .int .i64 (k : Int)), (7, .int .i64 (s.1.1 : Int))])
    (H := fun s => [cellsB p #[.slice U (ys.length + 1) d, .bool false] 125, osl 98 NumD.enc 1 U d (ys.take s.1.1 ++ s.1.2 :: ys.drop s.1.1)]) (μ := fun s => s.1.1)
    (s0 := ⟨(ys.length, x), hk1, Nat.le_refl _⟩) (Sat.mem ⟨rfl, rfl, rfl, rfl, trivial⟩) (t := by simp only [List.take_length, List.drop_length]; infer_instance) ?_
  rintro ⟨⟨i, w⟩, h1, h2⟩ ρ'
  dsimp only at h1 h2 ⊢
  have hlen : (ys.take i ++ w :: ys.drop i).length = ys.length + 1 := by simp; omega
  repeat (first | refine g_endt ?_ | refine g_end ?_ | refine g_then ?_ | refine g_in_normal ?_ | refine g_then_ret ?_ | refine g_in_ret ?_ | refine g_then_exit ?_ | refine g_in_exit rfl ?_ | refine g_in_exit_ne (by decide) ?_ | refine g_seq ?_ | refine g_region ?_ | refine g_block ?_ | refine g_ret ?_ | refine g_return_n ?_ | refine g_exit ?_ | refine g_skip ?_)
  refine o_move ?_
  refine o_move ?_
  refine o_gtr rfl rfl ?_
  first | refine g_endt ?_ | refine g_end ?_
  by_cases h : k < i
  · first | refine g_seq (g_cond_t rfl (by simpa using h) ?_) | refine g_cond_t rfl (by simpa using h) ?_
    repeat (first | refine g_endt ?_ | refine g_end ?_ | refine g_then ?_ | refine g_in_normal ?_ | refine g_then_ret ?_ | refine g_in_ret ?_ | refine g_then_exit ?_ | refine g_in_exit rfl ?_ | refine g_in_exit_ne (by decide) ?_ | refine g_seq ?_ | refine g_region ?_ | refine g_block ?_ | refine g_ret ?_ | refine g_return_n ?_ | refine g_exit ?_ | refine g_skip ?_)
    obtain ⟨i, rfl⟩ : ∃ j, i = j + 1 := ⟨i - 1, by omega⟩
    have hi : i < ys.length := by omega
    obtain ⟨y, hy⟩ : ∃ y, ys[i]? = some y := ⟨_, List.getElem?_eq_getElem hi⟩
    have hz : (ys.take (i + 1) ++ w :: ys.drop (i + 1))[i]? = some y := by
      rw [List.getElem?_append_left (by simp; omega), List.getElem?_take, if_pos (by omega), hy]
    refine g_draw [14] [0,1,2,3,4,5,6,7,8,9,10,11,12,13,14] [cellsB p #[.slice U (ys.length + 1) d, .bool false] 125, osl 98 NumD.enc 1 U d (ys.take (i + 1) ++ w :: ys.drop (i + 1))] mixed rfl ?_
    refine ob_q rfl rfl ⟨_, fun X Q h => o_move (g_end (h _ _ ⟨rfl, rfl⟩)), ?_⟩
    refine ob_q rfl rfl ⟨_, fun X Q h => o_nil rfl (g_end (h _ _ ⟨rfl, rfl⟩)), ?_⟩
    refine ob_q rfl rfl ⟨_, fun X Q h => o_field rfl (g_end (h _ _ ⟨rfl, rfl⟩)), ?_⟩
    refine ob_q rfl rfl ⟨_, fun X Q h => o_load1 (v := .slice U (ys.length + 1) d) rfl rfl (g_end (h _ _ ⟨rfl, rfl⟩)), ?_⟩
    refine ob_q rfl rfl ⟨_, fun X Q h => o_move (g_end (h _ _ ⟨rfl, rfl⟩)), ?_⟩
    refine ob_q rfl rfl ⟨_, fun X Q h => o_move (g_end (h _ _ ⟨rfl, rfl⟩)), ?_⟩
    refine ob_q rfl rfl ⟨_, fun X Q h => o_nil rfl (g_end (h _ _ ⟨rfl, rfl⟩)), ?_⟩
    refine ob_q rfl rfl ⟨_, fun X Q h => o_field rfl (g_end (h _ _ ⟨rfl, rfl⟩)), ?_⟩
    refine ob_q rfl rfl ⟨_, fun X Q h => o_load1 (v := .slice U (ys.length + 1) d) rfl rfl (g_end (h _ _ ⟨rfl, rfl⟩)), ?_⟩
    refine ob_q rfl rfl ⟨_, fun X Q h => o_move (g_end (h _ _ ⟨rfl, rfl⟩)), ?_⟩
    refine ob_q rfl rfl ⟨_, fun X Q h => o_sub (c := ((i : Nat) : Int)) rfl rfl (by omega) (by omega) (by omega) (g_end (h _ _ ⟨rfl, rfl⟩)), ?_⟩
    refine ob_q rfl rfl ⟨_, fun X Q h => o_indexR (i := i) rfl rfl rfl (by omega) hlen rfl (g_end (h _ _ ⟨rfl, rfl⟩)), ?_⟩
    refine ob_q rfl rfl ⟨_, fun X Q h => o_loadE0 (enc := NumD.enc) rfl hz rfl (g_end (h _ _ ⟨rfl, rfl⟩)), ?_⟩
    refine ob_q rfl rfl ⟨_, fun X Q h => o_indexR (i := i + 1) rfl rfl rfl (by omega) hlen rfl (g_end (h _ _ ⟨rfl, rfl⟩)), ?_⟩
    refine ob_s ([]) rfl rfl rfl fun Qz hz => o_storeE (e := 98) (c := d) (v := y.val) (z := y) (i := i + 1) (enc := NumD.enc) (xs := ys.take (i + 1) ++ w :: ys.drop (i + 1)) rfl rfl rfl rfl (by omega) <| g_end (hz _ _ ⟨_, ob_fin, ?_⟩)
    clear hz Qz
    refine ob_nil ?_
    rw [gapNP ys i w y hi hy]
    repeat (first | refine g_endt ?_ | refine g_end ?_ | refine g_then ?_ | refine g_in_normal ?_ | refine g_then_ret ?_ | refine g_in_ret ?_ | refine g_then_exit ?_ | refine g_in_exit rfl ?_ | refine g_in_exit_ne (by decide) ?_ | refine g_seq ?_ | refine g_region ?_ | refine g_block ?_ | refine g_ret ?_ | refine g_return_n ?_ | refine g_exit ?_ | refine g_skip ?_)
    refine o_move ?_
    refine o_sub (c := ((i : Nat) : Int)) rfl rfl (by omega) (by omega) (by omega) ?_
    refine o_assign ?_
    refine g_endt ?_
    repeat (first | refine g_endt ?_ | refine g_end ?_ | refine g_then ?_ | refine g_in_normal ?_ | refine g_then_ret ?_ | refine g_in_ret ?_ | refine g_then_exit ?_ | refine g_in_exit rfl ?_ | refine g_in_exit_ne (by decide) ?_ | refine g_seq ?_ | refine g_region ?_ | refine g_block ?_ | refine g_ret ?_ | refine g_return_n ?_ | refine g_exit ?_ | refine g_skip ?_)
    exact g_meets ⟨(i, y), by show k ≤ i; omega, by show i ≤ ys.length; omega⟩ (by show i < i + 1; omega) (Sat.mem ⟨rfl, rfl, rfl, rfl, trivial⟩)
  · first | refine g_seq (g_cond_f rfl (by simpa using h) ?_) | refine g_cond_f rfl (by simpa using h) ?_
    have e : i = k := by omega
    subst e
    repeat (first | refine g_endt ?_ | refine g_end ?_ | refine g_then ?_ | refine g_in_normal ?_ | refine g_then_ret ?_ | refine g_in_ret ?_ | refine g_then_exit ?_ | refine g_in_exit rfl ?_ | refine g_in_exit_ne (by decide) ?_ | refine g_seq ?_ | refine g_region ?_ | refine g_block ?_ | refine g_ret ?_ | refine g_return_n ?_ | refine g_exit ?_ | refine g_skip ?_)
    refine o_move ?_
    refine o_nil rfl ?_
    refine o_field rfl ?_
    refine o_load1 (v := .slice U (ys.length + 1) d) rfl rfl ?_
    refine o_move ?_
    refine o_move ?_
    refine o_indexR (i := i) rfl rfl rfl (by omega) hlen rfl ?_
    refine o_storeE (e := 98) (c := d) (v := x.val) (z := x) (i := i) (enc := NumD.enc) (xs := ys.take i ++ w :: ys.drop i) rfl rfl rfl rfl (by omega) ?_
    refine g_endt ?_
    have hset : (ys.take i ++ w :: ys.drop i).set i x = ys.take i ++ x :: ys.drop i := by
      have h3 : (ys.take i).length = i := by simp; omega
      rw [List.set_append_right _ _ (by omega), h3, Nat.sub_self, List.set_cons_zero]
    rw [hset]
    repeat (first | refine g_endt ?_ | refine g_end ?_ | refine g_then ?_ | refine g_in_normal ?_ | refine g_then_ret ?_ | refine g_in_ret ?_ | refine g_then_exit ?_ | refine g_in_exit rfl ?_ | refine g_in_exit_ne (by decide) ?_ | refine g_seq ?_ | refine g_region ?_ | refine g_block ?_ | refine g_ret ?_ | refine g_return_n ?_ | refine g_exit ?_ | refine g_skip ?_)
    refine o_assign ?_
    first | refine g_endt ?_ | refine g_end ?_
    refine shutFNP p (ys.take i ++ x :: ys.drop i) U d (len := ys.length + 1) (by simp; omega) ?_
    repeat (first | refine g_endt ?_ | refine g_end ?_ | refine g_then ?_ | refine g_in_normal ?_ | refine g_then_ret ?_ | refine g_in_ret ?_ | refine g_then_exit ?_ | refine g_in_exit rfl ?_ | refine g_in_exit_ne (by decide) ?_ | refine g_seq ?_ | refine g_region ?_ | refine g_block ?_ | refine g_ret ?_ | refine g_return_n ?_ | refine g_exit ?_ | refine g_skip ?_)
    exact ret1 (K := [SetANP p (ys.take i ++ x :: ys.drop i)]) rfl (resT rfl) ⟨i, false, rfl, rfl, hk⟩
end Go.Proofs.YtonaccfoelgpnaaGreat
/- An ordered set's Put, told as a function of lists. -/
namespace Go.Proofs.YtonaccfoelgpnaaGreat
open Go Go.Sl

theorem PutCNP_spec (p : Nat) (ys : List NumD) (x : NumD) (hs : Srt NumD.cmp ys) (hl : ys.length < 1000000000) : Ctr Tryz.prog 46 [.pointer (some ⟨p, 0, none⟩), x.val] [SetANP p ys]
    (fun v M => v = .bool (!hasC NumD.cmp ys x) ∧ M = [SetANP p (insC NumD.cmp ys x)]) := (PutNP_spec p ys x hs hl).mono fun v M ⟨k, there, h1, h2, h3⟩ => by
  rw [h1, h2, hasC_of h3, insC_of NumD.lin hs h3]
  exact ⟨rfl, rfl⟩
end Go.Proofs.YtonaccfoelgpnaaGreat
/- An ordered set's functions, for one type of members: where one stands. -/
namespace Go.Proofs.YtonaccfoelgpnaaGreat
open Go Go.Sl
attribute [local irreducible] Code.wpIn roundPost bodyPostM runL Ret Meets Begin

theorem PlaceNP_spec (p : Nat) (ys : List NumD) (x : NumD) (hs : Srt NumD.cmp ys) (hl : ys.length ≤ 1000000000) : Ctr Tryz.prog 49 [.pointer (some ⟨p, 0, none⟩), x.val] [SetANP p ys]
    (fun v M => ∃ (k : Nat) (there : Bool), v = .tuple #[.int .i64 (k : Int), .bool there] ∧ M = [SetANP p ys] ∧ FindR NumD.cmp ys x k there) := by
  refine spec_of Tryz.func49 rfl Tryz.ntmps49 rfl fun w0 F => ?_
  -- (*ponder/order.Set[ponder/pref.number]).Place
  repeat (first | refine g_endt ?_ | refine g_end ?_ | refine g_then ?_ | refine g_in_normal ?_ | refine g_then_ret ?_ | refine g_in_ret ?_ | refine g_then_exit ?_ | refine g_in_exit rfl ?_ | refine g_in_exit_ne (by decide) ?_ | refine g_seq ?_ | refine g_region ?_ | refine g_block ?_ | refine g_ret ?_ | refine g_return_n ?_ | refine g_exit ?_ | refine g_skip ?_)
  refine o_assign ?_
  refine o_assign ?_
  first | refine g_endt ?_ | refine g_end ?_
  repeat (first | refine g_endt ?_ | refine g_end ?_ | refine g_then ?_ | refine g_in_normal ?_ | refine g_then_ret ?_ | refine g_in_ret ?_ | refine g_then_exit ?_ | refine g_in_exit rfl ?_ | refine g_in_exit_ne (by decide) ?_ | refine g_seq ?_ | refine g_region ?_ | refine g_block ?_ | refine g_ret ?_ | refine g_return_n ?_ | refine g_exit ?_ | refine g_skip ?_)
  refine o_move ?_
  refine o_peql rfl ?_
  first | refine g_endt ?_ | refine g_end ?_
  first | refine g_seq (g_cond_f rfl (by first | rfl | (simp; done) | (simp; omega) | (simp; assumption)) ?_) | refine g_cond_f rfl (by first | rfl | (simp; done) | (simp; omega) | (simp; assumption)) ?_
  repeat (first | refine g_endt ?_ | refine g_end ?_ | refine g_then ?_ | refine g_in_normal ?_ | refine g_then_ret ?_ | refine g_in_ret ?_ | refine g_then_exit ?_ | refine g_in_exit rfl ?_ | refine g_in_exit_ne (by decide) ?_ | refine g_seq ?_ | refine g_region ?_ | refine g_block ?_ | refine g_ret ?_ | refine g_return_n ?_ | refine g_exit ?_ | refine g_skip ?_)
  refine o_move ?_
  refine o_move ?_
  refine o_call (findNP_spec p ys x hs hl) rfl rfl ?_
  rintro _ _ ⟨k, there, rfl, rfl, hk⟩
  refine o_extract rfl rfl ?_
  refine o_extract rfl rfl ?_
  refine o_assign ?_
  refine o_assign ?_
  first | refine g_endt ?_ | refine g_end ?_
  repeat (first | refine g_endt ?_ | refine g_end ?_ | refine g_then ?_ | refine g_in_normal ?_ | refine g_then_ret ?_ | refine g_in_ret ?_ | refine g_then_exit ?_ | refine g_in_exit rfl ?_ | refine g_in_exit_ne (by decide) ?_ | refine g_seq ?_ | refine g_region ?_ | refine g_block ?_ | refine g_ret ?_ | refine g_return_n ?_ | refine g_exit ?_ | refine g_skip ?_)
  exact ret2 (K := [SetANP p ys]) rfl (resT rfl) (resT rfl) ⟨k, there, rfl, rfl, hk⟩
end Go.Proofs.YtonaccfoelgpnaaGreat
/- An ordered set's functions, for one type of members: made. -/
namespace Go.Proofs.YtonaccfoelgpnaaGreat
open Go Go.Sl
attribute [local irreducible] Code.wpIn roundPost bodyPostM runL Ret Meets Begin

theorem NilNP_set (p : Nat) {w0 : World} {A : SProp} {L M : List SProp} {Φ : World → Prop} [tk : Take1 L (cellsB p #[.slice none 0 0, .bool false] 125) M] (h : G w0 A (SetANP p [] :: M) Φ) : G w0 A L Φ :=
  G.perm tk.perm (G.nil_slice (α := NumD) 98 NumD.enc 1 (shutFNP p [] none 0 rfl (M := M) (tk := ⟨List.Perm.swap _ _ _⟩) h))
theorem NewNP_spec : Ctr Tryz.prog 45 [.slice none 0 0] [] (fun v M => ∃ p, v = .pointer (some ⟨p, 0, none⟩) ∧ M = [SetANP p []]) := by
  refine spec_of Tryz.func45 rfl Tryz.ntmps45 rfl fun w0 F => ?_
  repeat (first | refine g_endt ?_ | refine g_end ?_ | refine g_then ?_ | refine g_in_normal ?_ | refine g_then_ret ?_ | refine g_in_ret ?_ | refine g_then_exit ?_ | refine g_in_exit rfl ?_ | refine g_in_exit_ne (by decide) ?_ | refine g_seq ?_ | refine g_region ?_ | refine g_block ?_ | refine g_ret ?_ | refine g_return_n ?_ | refine g_exit ?_ | refine g_skip ?_)
  refine o_assign ?_
  first | refine g_endt ?_ | refine g_end ?_
  repeat (first | refine g_endt ?_ | refine g_end ?_ | refine g_then ?_ | refine g_in_normal ?_ | refine g_then_ret ?_ | refine g_in_ret ?_ | refine g_then_exit ?_ | refine g_in_exit rfl ?_ | refine g_in_exit_ne (by decide) ?_ | refine g_seq ?_ | refine g_region ?_ | refine g_block ?_ | refine g_ret ?_ | refine g_return_n ?_ | refine g_exit ?_ | refine g_skip ?_)
  refine o_build (.agg #[.slice none 0 0, .bool false]) (fun w => by kernel_rfl) ?_
  refine o_boxc #[.slice none 0 0, .bool false] rfl rfl fun p => ?_
  refine NilNP_set p ?_
  refine o_assign ?_
  refine g_endt ?_
  repeat (first | refine g_endt ?_ | refine g_end ?_ | refine g_then ?_ | refine g_in_normal ?_ | refine g_then_ret ?_ | refine g_in_ret ?_ | refine g_then_exit ?_ | refine g_in_exit rfl ?_ | refine g_in_exit_ne (by decide) ?_ | refine g_seq ?_ | refine g_region ?_ | refine g_block ?_ | refine g_ret ?_ | refine g_return_n ?_ | refine g_exit ?_ | refine g_skip ?_)
  refine o_move ?_
  refine o_len rfl rfl ?_
  refine o_move ?_
  first | refine g_endt ?_ | refine g_end ?_
  repeat (first | refine g_endt ?_ | refine g_end ?_ | refine g_then ?_ | refine g_in_normal ?_ | refine g_then_ret ?_ | refine g_in_ret ?_ | refine g_then_exit ?_ | refine g_in_exit rfl ?_ | refine g_in_exit_ne (by decide) ?_ | refine g_seq ?_ | refine g_region ?_ | refine g_block ?_ | refine g_ret ?_ | refine g_return_n ?_ | refine g_exit ?_ | refine g_skip ?_)
  refine g_loop (σ := Unit) (S := fun _ => [(3, .pointer (some ⟨p, 0, none⟩)), (9, .int .i64 0), (10, .int .i64 0)]) (H := fun _ => [SetANP p []]) (μ := fun _ => 0) (s0 := ()) (Sat.mem ⟨rfl, rfl, rfl, trivial⟩) ?_
  rintro _ ρ'
  repeat (first | refine g_endt ?_ | refine g_end ?_ | refine g_then ?_ | refine g_in_normal ?_ | refine g_then_ret ?_ | refine g_in_ret ?_ | refine g_then_exit ?_ | refine g_in_exit rfl ?_ | refine g_in_exit_ne (by decide) ?_ | refine g_seq ?_ | refine g_region ?_ | refine g_block ?_ | refine g_ret ?_ | refine g_return_n ?_ | refine g_exit ?_ | refine g_skip ?_)
  refine o_lss rfl rfl ?_
  first | refine g_endt ?_ | refine g_end ?_
  first | refine g_seq (g_cond_f rfl (rfl) ?_) | refine g_cond_f rfl (rfl) ?_
  repeat (first | refine g_endt ?_ | refine g_end ?_ | refine g_then ?_ | refine g_in_normal ?_ | refine g_then_ret ?_ | refine g_in_ret ?_ | refine g_then_exit ?_ | refine g_in_exit rfl ?_ | refine g_in_exit_ne (by decide) ?_ | refine g_seq ?_ | refine g_region ?_ | refine g_block ?_ | refine g_ret ?_ | refine g_return_n ?_ | refine g_exit ?_ | refine g_skip ?_)
  refine o_move ?_
  refine o_assign ?_
  first | refine g_endt ?_ | refine g_end ?_
  repeat (first | refine g_endt ?_ | refine g_end ?_ | refine g_then ?_ | refine g_in_normal ?_ | refine g_then_ret ?_ | refine g_in_ret ?_ | refine g_then_exit ?_ | refine g_in_exit rfl ?_ | refine g_in_exit_ne (by decide) ?_ | refine g_seq ?_ | refine g_region ?_ | refine g_block ?_ | refine g_ret ?_ | refine g_return_n ?_ | refine g_exit ?_ | refine g_skip ?_)
  exact ret1 rfl (resT rfl) ⟨p, rfl, rfl⟩
end Go.Proofs.YtonaccfoelgpnaaGreat
/- Preference memory: what a question says of is gone; what instantiations preferred. -/
namespace Go.Proofs.YtonaccfoelgpnaaGreat
open Go Go.Sl
attribute [local irreducible] Exit.then Exit.inBlock Code.wpIn roundPost bodyPostM runL Ret Meets MeetsD Begin

def goneR (ps : List PrefD) (g : PrefD → Bool) : List PrefD := ps.filter fun p => !g p
set_option maxHeartbeats 2000000 in
theorem without_spec (m : Nat) (room : Int) (ps : List PrefD) (hp : ps.length ≤ 10000) (gf : FuncId) (lb : List Value) (g : PrefD → Bool) (Ks : List SProp) [En Tryz.prog gf] (hg : ∀ p ∈ ps, Ctr Tryz.prog gf (p.val :: lb) Ks (fun v M => v = .bool (g p) ∧ M = Ks)) :
    Ctr Tryz.prog 47 [.pointer (some ⟨m, 0, none⟩), .func (.func gf) #[] lb.toArray] (MemP m room ps :: Ks) (fun v M => v = .int .i64 ((ps.length - (goneR ps g).length : Nat) : Int) ∧ M = MemP m room (goneR ps g) :: Ks) := by
  refine spec_of Tryz.func47 rfl Tryz.ntmps47 rfl fun w0 F => ?_
  -- hide
  -- (*ponder/pref.Memory).without
  refine openMm m room ps fun a c0 mp zs hI => ?_
  repeat (first | refine g_endt ?_ | refine g_end ?_ | refine g_then ?_ | refine g_in_normal ?_ | refine g_then_ret ?_ | refine g_in_ret ?_ | refine g_then_exit ?_ | refine g_in_exit rfl ?_ | refine g_in_exit_ne (by decide) ?_ | refine g_seq ?_ | refine g_region ?_ | refine g_block ?_ | refine g_ret ?_ | refine g_return_n ?_ | refine g_exit ?_ | refine g_skip ?_)
  refine g_hideR fun Q_ hQ_ => ?_
  refine o_assign ?_
  refine g_end (G.imp (hQ_ .normal _) ?_)
  clear hQ_ Q_
  try refine g_then ?_
  repeat (first | refine g_endt ?_ | refine g_end ?_ | refine g_then ?_ | refine g_in_normal ?_ | refine g_then_ret ?_ | refine g_in_ret ?_ | refine g_then_exit ?_ | refine g_in_exit rfl ?_ | refine g_in_exit_ne (by decide) ?_ | refine g_seq ?_ | refine g_region ?_ | refine g_block ?_ | refine g_ret ?_ | refine g_return_n ?_ | refine g_exit ?_ | refine g_skip ?_)
  refine g_hideR fun Q_ hQ_ => ?_
  refine o_assign ?_
  refine g_end (G.imp (hQ_ .normal _) ?_)
  clear hQ_ Q_
  try refine g_then ?_
  repeat (first | refine g_endt ?_ | refine g_end ?_ | refine g_then ?_ | refine g_in_normal ?_ | refine g_then_ret ?_ | refine g_in_ret ?_ | refine g_then_exit ?_ | refine g_in_exit rfl ?_ | refine g_in_exit_ne (by decide) ?_ | refine g_seq ?_ | refine g_region ?_ | refine g_block ?_ | refine g_ret ?_ | refine g_return_n ?_ | refine g_exit ?_ | refine g_skip ?_)
  refine g_hideR fun Q_ hQ_ => ?_
  refine o_move ?_
  refine o_nil rfl ?_
  first | refine o_field rfl ?_ | refine o_fieldR rfl (by omega) ?_
  refine o_load1 (v := .slice a ps.length c0) rfl rfl ?_
  refine o_len rfl rfl ?_
  refine o_move ?_
  refine g_end (G.imp (hQ_ .normal _) ?_)
  clear hQ_ Q_
  try refine g_then ?_
  refine G.nil_slice (α := PrefD) 41 encP 16 ?_
  repeat (first | refine g_endt ?_ | refine g_end ?_ | refine g_then ?_ | refine g_in_normal ?_ | refine g_then_ret ?_ | refine g_in_ret ?_ | refine g_then_exit ?_ | refine g_in_exit rfl ?_ | refine g_in_exit_ne (by decide) ?_ | refine g_seq ?_ | refine g_region ?_ | refine g_block ?_ | refine g_ret ?_ | refine g_return_n ?_ | refine g_exit ?_ | refine g_skip ?_)
  refine g_loop (σ := {t : Nat × Option Addr × Nat // t.1 ≤ ps.length}) (S := fun t => [(0, .pointer (some ⟨m, 0, none⟩)), (1, .func (.func gf) #[] lb.toArray), (5, .slice t.1.2.1 (goneR (ps.take t.1.1) g).length t.1.2.2), (12, .slice a ps.length c0), (13, .int .i64 (ps.length : Int)), (14, .int .i64 (t.1.1 : Int))])
    (H := fun t => mC m room a ps.length c0 mp :: psl encP 16 a ps :: MapASP mp zs :: pslots zs ps :: oP t.1.2.1 t.1.2.2 (goneR (ps.take t.1.1) g) :: Ks) (μ := fun t => ps.length - t.1.1) (s0 := ⟨(0, none, 0), Nat.zero_le _⟩) (Sat.mem ⟨rfl, rfl, rfl, rfl, rfl, rfl, trivial⟩) (t := (inferInstance : Take _ (mC m room a ps.length c0 mp :: psl encP 16 a ps :: MapASP mp zs :: pslots zs ps :: oP none 0 [] :: Ks) _)) ?_
  rintro ⟨⟨i2, S, s⟩, hi2⟩ ρ2
  dsimp only at hi2 ⊢
  have hol : (goneR (ps.take i2) g).length ≤ i2 := Nat.le_trans (List.length_filter_le _ _) (by simp; omega)
  repeat (first | refine g_endt ?_ | refine g_end ?_ | refine g_then ?_ | refine g_in_normal ?_ | refine g_then_ret ?_ | refine g_in_ret ?_ | refine g_then_exit ?_ | refine g_in_exit rfl ?_ | refine g_in_exit_ne (by decide) ?_ | refine g_seq ?_ | refine g_region ?_ | refine g_block ?_ | refine g_ret ?_ | refine g_return_n ?_ | refine g_exit ?_ | refine g_skip ?_)
  refine g_hideR fun Q_ hQ_ => ?_
  refine o_lss rfl rfl ?_
  refine g_end (G.imp (hQ_ .normal _) ?_)
  clear hQ_ Q_
  try refine g_then ?_
  by_cases hin2 : i2 < ps.length
  · first | refine g_seq (g_cond_t rfl (by first | rfl | (simp; done) | (simp; omega) | (simp; assumption)) ?_) | refine g_cond_t rfl (by first | rfl | (simp; done) | (simp; omega) | (simp; assumption)) ?_
    obtain ⟨q, hq⟩ : ∃ q, ps[i2]? = some q := ⟨_, List.getElem?_eq_getElem hin2⟩
    have hft : goneR (ps.take (i2 + 1)) g = goneR (ps.take i2) g ++ if (!g q) = true then [q] else [] := filter_take (fun p => !g p) hq
    have hcq := hg q (List.mem_of_getElem? hq)
    generalize goneR (ps.take i2) g = os at hol hft ⊢
    generalize g q = gq at hcq hft
    repeat (first | refine g_endt ?_ | refine g_end ?_ | refine g_then ?_ | refine g_in_normal ?_ | refine g_then_ret ?_ | refine g_in_ret ?_ | refine g_then_exit ?_ | refine g_in_exit rfl ?_ | refine g_in_exit_ne (by decide) ?_ | refine g_seq ?_ | refine g_region ?_ | refine g_block ?_ | refine g_ret ?_ | refine g_return_n ?_ | refine g_exit ?_ | refine g_skip ?_)
    repeat (first | refine g_endt ?_ | refine g_end ?_ | refine g_then ?_ | refine g_in_normal ?_ | refine g_then_ret ?_ | refine g_in_ret ?_ | refine g_then_exit ?_ | refine g_in_exit rfl ?_ | refine g_in_exit_ne (by decide) ?_ | refine g_seq ?_ | refine g_region ?_ | refine g_block ?_ | refine g_ret ?_ | refine g_return_n ?_ | refine g_exit ?_ | refine g_skip ?_)
    refine g_hideR fun Q_ hQ_ => ?_
    refine o_indexR (ys := ps) (i := i2) rfl rfl rfl hin2 rfl rfl ?_
    refine o_loadE (ys := ps) rfl rfl hq ?_
    refine o_alloc fun c7 => ?_
    refine o_store (v := q.val) rfl rfl rfl rfl rfl ?_
    refine g_end (G.imp (hQ_ .normal _) ?_)
    clear hQ_ Q_
    try refine g_then ?_
    refine G.norm c7 q.val.cells rfl ?_
    repeat (first | refine g_endt ?_ | refine g_end ?_ | refine g_then ?_ | refine g_in_normal ?_ | refine g_then_ret ?_ | refine g_in_ret ?_ | refine g_then_exit ?_ | refine g_in_exit rfl ?_ | refine g_in_exit_ne (by decide) ?_ | refine g_seq ?_ | refine g_region ?_ | refine g_block ?_ | refine g_ret ?_ | refine g_return_n ?_ | refine g_exit ?_ | refine g_skip ?_)
    refine g_hideR fun Q_ hQ_ => ?_
    refine o_move ?_
    refine o_loadN (v := q.val) rfl rfl rfl ?_
    refine o_callc hcq rfl rfl rfl ?_
    rintro _ Ks ⟨rfl, rfl⟩
    refine o_not rfl ?_
    refine g_end (G.imp (hQ_ .normal _) ?_)
    clear hQ_ Q_
    try refine g_then ?_
    cases gq with
    | true =>
      rw [if_neg (by decide), List.append_nil] at hft
      first | refine g_seq (g_cond_f rfl (by first | rfl | (simp; done) | (simp; omega) | (simp; assumption)) ?_) | refine g_cond_f rfl (by first | rfl | (simp; done) | (simp; omega) | (simp; assumption)) ?_
      repeat (first | refine g_endt ?_ | refine g_end ?_ | refine g_then ?_ | refine g_in_normal ?_ | refine g_then_ret ?_ | refine g_in_ret ?_ | refine g_then_exit ?_ | refine g_in_exit rfl ?_ | refine g_in_exit_ne (by decide) ?_ | refine g_seq ?_ | refine g_region ?_ | refine g_block ?_ | refine g_ret ?_ | refine g_return_n ?_ | refine g_exit ?_ | refine g_skip ?_)
      repeat (first | refine g_endt ?_ | refine g_end ?_ | refine g_then ?_ | refine g_in_normal ?_ | refine g_then_ret ?_ | refine g_in_ret ?_ | refine g_then_exit ?_ | refine g_in_exit rfl ?_ | refine g_in_exit_ne (by decide) ?_ | refine g_seq ?_ | refine g_region ?_ | refine g_block ?_ | refine g_ret ?_ | refine g_return_n ?_ | refine g_exit ?_ | refine g_skip ?_)
      refine g_hideR fun Q_ hQ_ => ?_
      refine o_add (c := ((i2 + 1 : Nat) : Int)) rfl rfl (by omega) (by omega) (by omega) ?_
      refine o_move ?_
      refine g_end (G.imp (hQ_ .normal _) ?_)
      clear hQ_ Q_
      try refine g_then ?_
      repeat (first | refine g_endt ?_ | refine g_end ?_ | refine g_then ?_ | refine g_in_normal ?_ | refine g_then_ret ?_ | refine g_in_ret ?_ | refine g_then_exit ?_ | refine g_in_exit rfl ?_ | refine g_in_exit_ne (by decide) ?_ | refine g_seq ?_ | refine g_region ?_ | refine g_block ?_ | refine g_ret ?_ | refine g_return_n ?_ | refine g_exit ?_ | refine g_skip ?_)
      exact g_meets ⟨(i2 + 1, S, s), hin2⟩ (by show ps.length - (i2 + 1) < ps.length - i2; omega) (Sat.mem ⟨rfl, rfl, by rw [hft]; rfl, rfl, rfl, rfl, trivial⟩) (t := by
        show Take _ (mC m room a ps.length c0 mp :: psl encP 16 a ps :: MapASP mp zs :: pslots zs ps :: oP S s (goneR (ps.take (i2 + 1)) g) :: Ks) _
        rw [hft]; infer_instance)
    | false =>
      rw [if_pos (by decide)] at hft
      first | refine g_seq (g_cond_t rfl (by first | rfl | (simp; done) | (simp; omega) | (simp; assumption)) ?_) | refine g_cond_t rfl (by first | rfl | (simp; done) | (simp; omega) | (simp; assumption)) ?_
      repeat (first | refine g_endt ?_ | refine g_end ?_ | refine g_then ?_ | refine g_in_normal ?_ | refine g_then_ret ?_ | refine g_in_ret ?_ | refine g_then_exit ?_ | refine g_in_exit rfl ?_ | refine g_in_exit_ne (by decide) ?_ | refine g_seq ?_ | refine g_region ?_ | refine g_block ?_ | refine g_ret ?_ | refine g_return_n ?_ | refine g_exit ?_ | refine g_skip ?_)
      refine g_hideR fun Q_ hQ_ => ?_
      refine o_move ?_
      refine o_loadN (v := q.val) rfl rfl rfl ?_
      refine o_litP (e := 41) encP [q] (q).val.cells (fun w => by kernel_rfl) (by simp [encP]) (by simp [maxLen]) fun _ => ?_
      refine o_append (xs := os) (ys := [q]) (by first | rfl | (simp only [List.length_map, List.length_take, List.length_append]; first | rfl | (congr 1; omega))) rfl rfl rfl rfl (fun _ => .inr trivial) (by simp [maxLen]; omega) (by simp; omega) fun S2 s2 => ?_
      refine o_assign ?_
      refine g_end (G.imp (hQ_ .normal _) ?_)
      clear hQ_ Q_
      try refine g_then ?_
      repeat (first | refine g_endt ?_ | refine g_end ?_ | refine g_then ?_ | refine g_in_normal ?_ | refine g_then_ret ?_ | refine g_in_ret ?_ | refine g_then_exit ?_ | refine g_in_exit rfl ?_ | refine g_in_exit_ne (by decide) ?_ | refine g_seq ?_ | refine g_region ?_ | refine g_block ?_ | refine g_ret ?_ | refine g_return_n ?_ | refine g_exit ?_ | refine g_skip ?_)
      repeat (first | refine g_endt ?_ | refine g_end ?_ | refine g_then ?_ | refine g_in_normal ?_ | refine g_then_ret ?_ | refine g_in_ret ?_ | refine g_then_exit ?_ | refine g_in_exit rfl ?_ | refine g_in_exit_ne (by decide) ?_ | refine g_seq ?_ | refine g_region ?_ | refine g_block ?_ | refine g_ret ?_ | refine g_return_n ?_ | refine g_exit ?_ | refine g_skip ?_)
      refine g_hideR fun Q_ hQ_ => ?_
      refine o_add (c := ((i2 + 1 : Nat) : Int)) rfl rfl (by omega) (by omega) (by omega) ?_
      refine o_move ?_
      refine g_end (G.imp (hQ_ .normal _) ?_)
      clear hQ_ Q_
      try refine g_then ?_
      repeat (first | refine g_endt ?_ | refine g_end ?_ | refine g_then ?_ | refine g_in_normal ?_ | refine g_then_ret ?_ | refine g_in_ret ?_ | refine g_then_exit ?_ | refine g_in_exit rfl ?_ | refine g_in_exit_ne (by decide) ?_ | refine g_seq ?_ | refine g_region ?_ | refine g_block ?_ | refine g_ret ?_ | refine g_return_n ?_ | refine g_exit ?_ | refine g_skip ?_)
      exact g_meets ⟨(i2 + 1, S2, s2), hin2⟩ (by show ps.length - (i2 + 1) < ps.length - i2; omega) (Sat.mem ⟨rfl, rfl, by rw [hft, List.length_append]; rfl, rfl, rfl, rfl, trivial⟩) (t := by
        show Take _ (mC m room a ps.length c0 mp :: psl encP 16 a ps :: MapASP mp zs :: pslots zs ps :: oP S2 s2 (goneR (ps.take (i2 + 1)) g) :: Ks) _
        rw [hft]; infer_instance)
  first | refine g_seq (g_cond_f rfl (by simp; omega) ?_) | refine g_cond_f rfl (by simp; omega) ?_
  rw [List.take_of_length_le (by omega)] at hol ⊢
  have hsame : (goneR ps g).length = ps.length → goneR ps g = ps := fun h => by
    have h1 := List.filter_sublist (l := ps) (p := fun p => !g p)
    exact List.Sublist.eq_of_length h1 h
  have hle : (goneR ps g).length ≤ ps.length := List.length_filter_le _ _
  generalize goneR ps g = os at hol hsame hle ⊢
  repeat (first | refine g_endt ?_ | refine g_end ?_ | refine g_then ?_ | refine g_in_normal ?_ | refine g_then_ret ?_ | refine g_in_ret ?_ | refine g_then_exit ?_ | refine g_in_exit rfl ?_ | refine g_in_exit_ne (by decide) ?_ | refine g_seq ?_ | refine g_region ?_ | refine g_block ?_ | refine g_ret ?_ | refine g_return_n ?_ | refine g_exit ?_ | refine g_skip ?_)
  refine g_hideR fun Q_ hQ_ => ?_
  refine o_move ?_
  refine o_nil rfl ?_
  first | refine o_field rfl ?_ | refine o_fieldR rfl (by omega) ?_
  refine o_load1 (v := .slice a ps.length c0) rfl rfl ?_
  refine o_len rfl rfl ?_
  refine o_move ?_
  refine o_len rfl rfl ?_
  refine o_sub (c := ((ps.length - os.length : Nat) : Int)) rfl rfl (by omega) (by omega) (by omega) ?_
  refine o_assign ?_
  refine g_end (G.imp (hQ_ .normal _) ?_)
  clear hQ_ Q_
  try refine g_then ?_
  repeat (first | refine g_endt ?_ | refine g_end ?_ | refine g_then ?_ | refine g_in_normal ?_ | refine g_then_ret ?_ | refine g_in_ret ?_ | refine g_then_exit ?_ | refine g_in_exit rfl ?_ | refine g_in_exit_ne (by decide) ?_ | refine g_seq ?_ | refine g_region ?_ | refine g_block ?_ | refine g_ret ?_ | refine g_return_n ?_ | refine g_exit ?_ | refine g_skip ?_)
  refine g_hideR fun Q_ hQ_ => ?_
  refine o_move ?_
  refine o_gtr rfl rfl ?_
  refine g_end (G.imp (hQ_ .normal _) ?_)
  clear hQ_ Q_
  try refine g_then ?_
  by_cases h0 : 0 < ps.length - os.length
  · first | refine g_seq (g_cond_t rfl (by simp; omega) ?_) | refine g_cond_t rfl (by simp; omega) ?_
    refine G.bring [oP S s os] (G.frz ?_)
    repeat (first | refine g_endt ?_ | refine g_end ?_ | refine g_then ?_ | refine g_in_normal ?_ | refine g_then_ret ?_ | refine g_in_ret ?_ | refine g_then_exit ?_ | refine g_in_exit rfl ?_ | refine g_in_exit_ne (by decide) ?_ | refine g_seq ?_ | refine g_region ?_ | refine g_block ?_ | refine g_ret ?_ | refine g_return_n ?_ | refine g_exit ?_ | refine g_skip ?_)
    repeat (first | refine g_endt ?_ | refine g_end ?_ | refine g_then ?_ | refine g_in_normal ?_ | refine g_then_ret ?_ | refine g_in_ret ?_ | refine g_then_exit ?_ | refine g_in_exit rfl ?_ | refine g_in_exit_ne (by decide) ?_ | refine g_seq ?_ | refine g_region ?_ | refine g_block ?_ | refine g_ret ?_ | refine g_return_n ?_ | refine g_exit ?_ | refine g_skip ?_)
    refine g_hideR fun Q_ hQ_ => ?_
    refine o_move ?_
    refine o_move ?_
    refine o_call (set17_spec m room a ps.length c0 (some ⟨mp, 0, none⟩) S os.length s os rfl (by omega)) rfl rfl ?_
    rintro _ _ rfl
    refine g_end (G.imp (hQ_ .normal _) ?_)
    clear hQ_ Q_
    try refine g_then ?_
    repeat (first | refine g_endt ?_ | refine g_end ?_ | refine g_then ?_ | refine g_in_normal ?_ | refine g_then_ret ?_ | refine g_in_ret ?_ | refine g_then_exit ?_ | refine g_in_exit rfl ?_ | refine g_in_exit_ne (by decide) ?_ | refine g_seq ?_ | refine g_region ?_ | refine g_block ?_ | refine g_ret ?_ | refine g_return_n ?_ | refine g_exit ?_ | refine g_skip ?_)
    repeat (first | refine g_endt ?_ | refine g_end ?_ | refine g_then ?_ | refine g_in_normal ?_ | refine g_then_ret ?_ | refine g_in_ret ?_ | refine g_then_exit ?_ | refine g_in_exit rfl ?_ | refine g_in_exit_ne (by decide) ?_ | refine g_seq ?_ | refine g_region ?_ | refine g_block ?_ | refine g_ret ?_ | refine g_return_n ?_ | refine g_exit ?_ | refine g_skip ?_)
    refine g_hideR fun Q_ hQ_ => ?_
    refine o_move ?_
    refine o_assign ?_
    refine g_end (G.imp (hQ_ .normal _) ?_)
    clear hQ_ Q_
    try refine g_then ?_
    repeat (first | refine g_endt ?_ | refine g_end ?_ | refine g_then ?_ | refine g_in_normal ?_ | refine g_then_ret ?_ | refine g_in_ret ?_ | refine g_then_exit ?_ | refine g_in_exit rfl ?_ | refine g_in_exit_ne (by decide) ?_ | refine g_seq ?_ | refine g_region ?_ | refine g_block ?_ | refine g_ret ?_ | refine g_return_n ?_ | refine g_exit ?_ | refine g_skip ?_)
    exact ret1 (K := MemP m room os :: Ks) rfl (resT (v := .int .i64 ((ps.length - os.length : Nat) : Int)) rfl) ⟨rfl, rfl⟩
  · first | refine g_seq (g_cond_f rfl (by simp; omega) ?_) | refine g_cond_f rfl (by simp; omega) ?_
    have e := hsame (by omega)
    refine shutMm m room ps a c0 mp zs hI rfl ?_
    repeat (first | refine g_endt ?_ | refine g_end ?_ | refine g_then ?_ | refine g_in_normal ?_ | refine g_then_ret ?_ | refine g_in_ret ?_ | refine g_then_exit ?_ | refine g_in_exit rfl ?_ | refine g_in_exit_ne (by decide) ?_ | refine g_seq ?_ | refine g_region ?_ | refine g_block ?_ | refine g_ret ?_ | refine g_return_n ?_ | refine g_exit ?_ | refine g_skip ?_)
    repeat (first | refine g_endt ?_ | refine g_end ?_ | refine g_then ?_ | refine g_in_normal ?_ | refine g_then_ret ?_ | refine g_in_ret ?_ | refine g_then_exit ?_ | refine g_in_exit rfl ?_ | refine g_in_exit_ne (by decide) ?_ | refine g_seq ?_ | refine g_region ?_ | refine g_block ?_ | refine g_ret ?_ | refine g_return_n ?_ | refine g_exit ?_ | refine g_skip ?_)
    refine g_hideR fun Q_ hQ_ => ?_
    refine o_move ?_
    refine o_assign ?_
    refine g_end (G.imp (hQ_ .normal _) ?_)
    clear hQ_ Q_
    try refine g_then ?_
    repeat (first | refine g_endt ?_ | refine g_end ?_ | refine g_then ?_ | refine g_in_normal ?_ | refine g_then_ret ?_ | refine g_in_ret ?_ | refine g_then_exit ?_ | refine g_in_exit rfl ?_ | refine g_in_exit_ne (by decide) ?_ | refine g_seq ?_ | refine g_region ?_ | refine g_block ?_ | refine g_ret ?_ | refine g_return_n ?_ | refine g_exit ?_ | refine g_skip ?_)
    exact ret1 (K := MemP m room ps :: Ks) rfl (resT (v := .int .i64 ((ps.length - os.length : Nat) : Int)) rfl) ⟨rfl, by rw [e]⟩
/-! ### Drop -/
def dropG (nums : List Int) (p : PrefD) : Bool := nums.any (fun y => y == p.by_) && !p.o
theorem foldP_srt : ∀ (l a : List NumD), Srt NumD.cmp a → Srt NumD.cmp (l.foldl (insC NumD.cmp) a)
  | [], _, h => h
  | x :: l, a, h => foldP_srt l _ (h.insC linNum x)
theorem foldP_len : ∀ (l a : List NumD), (l.foldl (insC NumD.cmp) a).length ≤ a.length + l.length
  | [], a => Nat.le_refl _
  | x :: l, a => by
    have h1 := foldP_len l (insC NumD.cmp a x)
    have h2 := length_insC_le (f := NumD.cmp) a x
    simp only [List.foldl_cons, List.length_cons]; omega
def setN (nums : List Int) : List NumD := (nums.map NumD.mk).foldl (insC NumD.cmp) []
theorem setN_has (nums : List Int) (k : Int) : hasC NumD.cmp (setN nums) ⟨k⟩ = nums.any fun y => y == k := by
  unfold setN
  rw [hasC_fold linNum]
  rw [show hasC NumD.cmp [] (⟨k⟩ : NumD) = false from rfl, Bool.false_or]
  unfold hasC
  rw [List.any_map]
  congr 1
  funext y
  simp only [Function.comp]
  rw [Bool.eq_iff_iff, decide_eq_true_iff, beq_iff_eq, NumD.cmp_iff]
  exact ⟨fun h => by injection h, fun h => by rw [h]⟩
theorem setN_snoc (nums : List Int) (x : Int) : setN (nums ++ [x]) = insC NumD.cmp (setN nums) ⟨x⟩ := by
  unfold setN; rw [List.map_append, List.foldl_append]; rfl
abbrev cNs (c b : Nat) : SProp := cellsB c #[.pointer (some ⟨b, 0, none⟩)] 96
theorem Drop1_spec (b c5 : Nat) (nums : List Int) (hn : nums.length ≤ 1000) (p : PrefD) : Ctr Tryz.prog 48 [p.val, .pointer (some ⟨c5, 0, none⟩)] [SetANP b (setN nums), cNs c5 b] (fun v M => v = .bool (dropG nums p) ∧ M = [SetANP b (setN nums), cNs c5 b]) := by
  refine spec_of Tryz.func48 rfl Tryz.ntmps48 rfl fun w0 F => ?_
  -- hide
  -- (*ponder/pref.Memory).Drop$1
  have hsr : Srt NumD.cmp (setN nums) := foldP_srt _ _ Srt.nil
  have hsl : (setN nums).length ≤ 1000 := by have := foldP_len (nums.map NumD.mk) []; unfold setN; simp at this ⊢; omega
  repeat (first | refine g_endt ?_ | refine g_end ?_ | refine g_then ?_ | refine g_in_normal ?_ | refine g_then_ret ?_ | refine g_in_ret ?_ | refine g_then_exit ?_ | refine g_in_exit rfl ?_ | refine g_in_exit_ne (by decide) ?_ | refine g_seq ?_ | refine g_region ?_ | refine g_block ?_ | refine g_ret ?_ | refine g_return_n ?_ | refine g_exit ?_ | refine g_skip ?_)
  refine g_hideR fun Q_ hQ_ => ?_
  refine o_boxc p.val.cells rfl rfl fun q => ?_
  refine o_assign ?_
  refine g_end (G.imp (hQ_ .normal _) ?_)
  clear hQ_ Q_
  try refine g_then ?_
  repeat (first | refine g_endt ?_ | refine g_end ?_ | refine g_then ?_ | refine g_in_normal ?_ | refine g_then_ret ?_ | refine g_in_ret ?_ | refine g_then_exit ?_ | refine g_in_exit rfl ?_ | refine g_in_exit_ne (by decide) ?_ | refine g_seq ?_ | refine g_region ?_ | refine g_block ?_ | refine g_ret ?_ | refine g_return_n ?_ | refine g_exit ?_ | refine g_skip ?_)
  refine g_hideR fun Q_ hQ_ => ?_
  refine o_load1 (v := .pointer (some ⟨b, 0, none⟩)) rfl rfl ?_
  first | refine o_field rfl ?_ | refine o_fieldR rfl (by omega) ?_
  refine o_load1 (v := .int .i64 p.by_) rfl rfl ?_
  refine o_call (PlaceNP_spec b (setN nums) ⟨p.by_⟩ hsr (by omega)) rfl rfl ?_
  rintro _ _ ⟨k, there, rfl, rfl, hk⟩
  refine o_move ?_
  refine o_extract rfl rfl ?_
  refine o_extract rfl rfl ?_
  refine o_assign ?_
  refine o_assign ?_
  refine g_end (G.imp (hQ_ .normal _) ?_)
  clear hQ_ Q_
  try refine g_then ?_
  have hh := hasC_of hk
  rw [setN_has] at hh
  have hd : dropG nums p = (there && !p.o) := by unfold dropG; rw [hh]
  rw [hd]
  cases there with
  | true =>
    repeat (first | refine g_endt ?_ | refine g_end ?_ | refine g_then ?_ | refine g_in_normal ?_ | refine g_then_ret ?_ | refine g_in_ret ?_ | refine g_then_exit ?_ | refine g_in_exit rfl ?_ | refine g_in_exit_ne (by decide) ?_ | refine g_seq ?_ | refine g_region ?_ | refine g_block ?_ | refine g_ret ?_ | refine g_return_n ?_ | refine g_exit ?_ | refine g_skip ?_)
    refine g_hideR fun Q_ hQ_ => ?_
    refine o_move ?_
    refine o_move ?_
    first | (refine o_want rfl rfl rfl rfl rfl ?_; (first | refine o_field rfl ?_ | refine o_fieldR rfl (by omega) ?_)) | refine o_unwanted rfl rfl rfl rfl rfl ?_ | refine o_undef rfl rfl rfl ?_
    refine o_want rfl rfl rfl rfl rfl (o_load1 (v := .bool p.o) rfl rfl ?_)
    first | (refine o_want rfl rfl rfl rfl rfl ?_; refine o_not rfl ?_) | refine o_unwanted rfl rfl rfl rfl rfl ?_ | refine o_undef rfl rfl rfl ?_
    first | refine o_pick_t rfl rfl ?_ | refine o_pick_f rfl rfl ?_
    refine o_assign ?_
    refine g_end (G.imp (hQ_ .normal _) ?_)
    clear hQ_ Q_
    try refine g_then ?_
    repeat (first | refine g_endt ?_ | refine g_end ?_ | refine g_then ?_ | refine g_in_normal ?_ | refine g_then_ret ?_ | refine g_in_ret ?_ | refine g_then_exit ?_ | refine g_in_exit rfl ?_ | refine g_in_exit_ne (by decide) ?_ | refine g_seq ?_ | refine g_region ?_ | refine g_block ?_ | refine g_ret ?_ | refine g_return_n ?_ | refine g_exit ?_ | refine g_skip ?_)
    exact ret1 (K := [SetANP b (setN nums), cNs c5 b]) rfl (resT rfl) ⟨rfl, rfl⟩
  | false =>
    repeat (first | refine g_endt ?_ | refine g_end ?_ | refine g_then ?_ | refine g_in_normal ?_ | refine g_then_ret ?_ | refine g_in_ret ?_ | refine g_then_exit ?_ | refine g_in_exit rfl ?_ | refine g_in_exit_ne (by decide) ?_ | refine g_seq ?_ | refine g_region ?_ | refine g_block ?_ | refine g_ret ?_ | refine g_return_n ?_ | refine g_exit ?_ | refine g_skip ?_)
    refine g_hideR fun Q_ hQ_ => ?_
    refine o_move ?_
    refine o_move ?_
    first | (refine o_want rfl rfl rfl rfl rfl ?_; (first | refine o_field rfl ?_ | refine o_fieldR rfl (by omega) ?_)) | refine o_unwanted rfl rfl rfl rfl rfl ?_ | refine o_undef rfl rfl rfl ?_
    first | refine o_unwanted rfl rfl rfl rfl rfl ?_ | refine o_undef rfl rfl rfl ?_
    first | (refine o_want rfl rfl rfl rfl rfl ?_; refine o_not rfl ?_) | refine o_unwanted rfl rfl rfl rfl rfl ?_ | refine o_undef rfl rfl rfl ?_
    first | refine o_pick_t rfl rfl ?_ | refine o_pick_f rfl rfl ?_
    refine o_assign ?_
    refine g_end (G.imp (hQ_ .normal _) ?_)
    clear hQ_ Q_
    try refine g_then ?_
    repeat (first | refine g_endt ?_ | refine g_end ?_ | refine g_then ?_ | refine g_in_normal ?_ | refine g_then_ret ?_ | refine g_in_ret ?_ | refine g_then_exit ?_ | refine g_in_exit rfl ?_ | refine g_in_exit_ne (by decide) ?_ | refine g_seq ?_ | refine g_region ?_ | refine g_block ?_ | refine g_ret ?_ | refine g_return_n ?_ | refine g_exit ?_ | refine g_skip ?_)
    exact ret1 (K := [SetANP b (setN nums), cNs c5 b]) rfl (resT rfl) ⟨rfl, rfl⟩
set_option maxHeartbeats 1000000 in
theorem Drop17_spec (m : Nat) (room : Int) (ps : List PrefD) (hp : ps.length ≤ 10000) (A : Option Addr) (n c : Nat) (nums : List Int) (hl : nums.length = n) (hn : n ≤ 1000) :
    Ctr Tryz.prog 19 [.pointer (some ⟨m, 0, none⟩), .slice A n c] [MemP m room ps, psl encI 1 A nums] (fun v M => v = .int .i64 ((ps.length - (goneR ps (dropG nums)).length : Nat) : Int) ∧ M = [MemP m room (goneR ps (dropG nums)), psl encI 1 A nums]) := by
  refine spec_of Tryz.func19 rfl Tryz.ntmps19 rfl fun w0 F => ?_
  -- hide
  -- (*ponder/pref.Memory).Drop
  repeat (first | refine g_endt ?_ | refine g_end ?_ | refine g_then ?_ | refine g_in_normal ?_ | refine g_then_ret ?_ | refine g_in_ret ?_ | refine g_then_exit ?_ | refine g_in_exit rfl ?_ | refine g_in_exit_ne (by decide) ?_ | refine g_seq ?_ | refine g_region ?_ | refine g_block ?_ | refine g_ret ?_ | refine g_return_n ?_ | refine g_exit ?_ | refine g_skip ?_)
  refine g_hideR fun Q_ hQ_ => ?_
  refine o_assign ?_
  refine g_end (G.imp (hQ_ .normal _) ?_)
  clear hQ_ Q_
  try refine g_then ?_
  repeat (first | refine g_endt ?_ | refine g_end ?_ | refine g_then ?_ | refine g_in_normal ?_ | refine g_then_ret ?_ | refine g_in_ret ?_ | refine g_then_exit ?_ | refine g_in_exit rfl ?_ | refine g_in_exit_ne (by decide) ?_ | refine g_seq ?_ | refine g_region ?_ | refine g_block ?_ | refine g_ret ?_ | refine g_return_n ?_ | refine g_exit ?_ | refine g_skip ?_)
  refine g_hideR fun Q_ hQ_ => ?_
  refine o_call (NewNP_spec) rfl rfl ?_
  rintro _ _ ⟨b, rfl, rfl⟩
  refine o_alloc fun c5 => ?_
  refine o_store (v := .pointer (some ⟨b, 0, none⟩)) rfl rfl rfl rfl rfl ?_
  refine g_end (G.imp (hQ_ .normal _) ?_)
  clear hQ_ Q_
  try refine g_then ?_
  refine G.norm c5 #[.pointer (some ⟨b, 0, none⟩)] rfl ?_
  repeat (first | refine g_endt ?_ | refine g_end ?_ | refine g_then ?_ | refine g_in_normal ?_ | refine g_then_ret ?_ | refine g_in_ret ?_ | refine g_then_exit ?_ | refine g_in_exit rfl ?_ | refine g_in_exit_ne (by decide) ?_ | refine g_seq ?_ | refine g_region ?_ | refine g_block ?_ | refine g_ret ?_ | refine g_return_n ?_ | refine g_exit ?_ | refine g_skip ?_)
  refine g_hideR fun Q_ hQ_ => ?_
  refine o_move ?_
  refine o_len rfl rfl ?_
  refine o_move ?_
  refine g_end (G.imp (hQ_ .normal _) ?_)
  clear hQ_ Q_
  try refine g_then ?_
  repeat (first | refine g_endt ?_ | refine g_end ?_ | refine g_then ?_ | refine g_in_normal ?_ | refine g_then_ret ?_ | refine g_in_ret ?_ | refine g_then_exit ?_ | refine g_in_exit rfl ?_ | refine g_in_exit_ne (by decide) ?_ | refine g_seq ?_ | refine g_region ?_ | refine g_block ?_ | refine g_ret ?_ | refine g_return_n ?_ | refine g_exit ?_ | refine g_skip ?_)
  refine g_loop (σ := {i : Nat // i ≤ n}) (S := fun i => [(0, .pointer (some ⟨m, 0, none⟩)), (1, .slice A n c), (5, .pointer (some ⟨c5, 0, none⟩)), (9, .slice A n c), (10, .int .i64 (n : Int)), (11, .int .i64 (i.1 : Int))]) (H := fun i => [SetANP b (setN (nums.take i.1)), cNs c5 b, MemP m room ps, psl encI 1 A nums]) (μ := fun i => n - i.1) (s0 := ⟨0, Nat.zero_le _⟩) (Sat.mem ⟨rfl, rfl, rfl, rfl, rfl, rfl, trivial⟩) (t := (inferInstance : Take _ [SetANP b [], cNs c5 b, MemP m room ps, psl encI 1 A nums] _)) ?_
  rintro ⟨i, hi⟩ ρ'
  dsimp only at hi ⊢
  have hsr : Srt NumD.cmp (setN (nums.take i)) := foldP_srt _ _ Srt.nil
  have hsl : (setN (nums.take i)).length ≤ n := by have := foldP_len ((nums.take i).map NumD.mk) []; unfold setN; simp at this ⊢; omega
  repeat (first | refine g_endt ?_ | refine g_end ?_ | refine g_then ?_ | refine g_in_normal ?_ | refine g_then_ret ?_ | refine g_in_ret ?_ | refine g_then_exit ?_ | refine g_in_exit rfl ?_ | refine g_in_exit_ne (by decide) ?_ | refine g_seq ?_ | refine g_region ?_ | refine g_block ?_ | refine g_ret ?_ | refine g_return_n ?_ | refine g_exit ?_ | refine g_skip ?_)
  refine g_hideR fun Q_ hQ_ => ?_
  refine o_lss rfl rfl ?_
  refine g_end (G.imp (hQ_ .normal _) ?_)
  clear hQ_ Q_
  try refine g_then ?_
  by_cases hin : i < n
  · first | refine g_seq (g_cond_t rfl (by first | rfl | (simp; done) | (simp; omega) | (simp; assumption)) ?_) | refine g_cond_t rfl (by first | rfl | (simp; done) | (simp; omega) | (simp; assumption)) ?_
    obtain ⟨x, hx⟩ : ∃ x, nums[i]? = some x := ⟨_, List.getElem?_eq_getElem (by omega)⟩
    have hnx : setN (nums.take (i + 1)) = insC NumD.cmp (setN (nums.take i)) ⟨x⟩ := by rw [List.take_add_one, hx]; exact setN_snoc _ _
    generalize setN (nums.take i) = ys at hsr hsl hnx ⊢
    repeat (first | refine g_endt ?_ | refine g_end ?_ | refine g_then ?_ | refine g_in_normal ?_ | refine g_then_ret ?_ | refine g_in_ret ?_ | refine g_then_exit ?_ | refine g_in_exit rfl ?_ | refine g_in_exit_ne (by decide) ?_ | refine g_seq ?_ | refine g_region ?_ | refine g_block ?_ | refine g_ret ?_ | refine g_return_n ?_ | refine g_exit ?_ | refine g_skip ?_)
    repeat (first | refine g_endt ?_ | refine g_end ?_ | refine g_then ?_ | refine g_in_normal ?_ | refine g_then_ret ?_ | refine g_in_ret ?_ | refine g_then_exit ?_ | refine g_in_exit rfl ?_ | refine g_in_exit_ne (by decide) ?_ | refine g_seq ?_ | refine g_region ?_ | refine g_block ?_ | refine g_ret ?_ | refine g_return_n ?_ | refine g_exit ?_ | refine g_skip ?_)
    refine g_hideR fun Q_ hQ_ => ?_
    refine o_indexR (ys := nums) (i := i) rfl rfl rfl (by omega) hl rfl ?_
    refine o_loadE0 (ys := nums) (v := .int .i64 x) rfl hx rfl ?_
    refine o_assign ?_
    refine g_end (G.imp (hQ_ .normal _) ?_)
    clear hQ_ Q_
    try refine g_then ?_
    repeat (first | refine g_endt ?_ | refine g_end ?_ | refine g_then ?_ | refine g_in_normal ?_ | refine g_then_ret ?_ | refine g_in_ret ?_ | refine g_then_exit ?_ | refine g_in_exit rfl ?_ | refine g_in_exit_ne (by decide) ?_ | refine g_seq ?_ | refine g_region ?_ | refine g_block ?_ | refine g_ret ?_ | refine g_return_n ?_ | refine g_exit ?_ | refine g_skip ?_)
    refine g_hideR fun Q_ hQ_ => ?_
    refine o_load1 (v := .pointer (some ⟨b, 0, none⟩)) rfl rfl ?_
    refine o_move ?_
    refine o_call (PutCNP_spec b ys ⟨x⟩ hsr (by omega)) rfl rfl ?_
    rintro _ _ ⟨rfl, rfl⟩
    refine g_end (G.imp (hQ_ .normal _) ?_)
    clear hQ_ Q_
    try refine g_then ?_
    rw [← hnx]
    repeat (first | refine g_endt ?_ | refine g_end ?_ | refine g_then ?_ | refine g_in_normal ?_ | refine g_then_ret ?_ | refine g_in_ret ?_ | refine g_then_exit ?_ | refine g_in_exit rfl ?_ | refine g_in_exit_ne (by decide) ?_ | refine g_seq ?_ | refine g_region ?_ | refine g_block ?_ | refine g_ret ?_ | refine g_return_n ?_ | refine g_exit ?_ | refine g_skip ?_)
    repeat (first | refine g_endt ?_ | refine g_end ?_ | refine g_then ?_ | refine g_in_normal ?_ | refine g_then_ret ?_ | refine g_in_ret ?_ | refine g_then_exit ?_ | refine g_in_exit rfl ?_ | refine g_in_exit_ne (by decide) ?_ | refine g_seq ?_ | refine g_region ?_ | refine g_block ?_ | refine g_ret ?_ | refine g_return_n ?_ | refine g_exit ?_ | refine g_skip ?_)
    refine g_hideR fun Q_ hQ_ => ?_
    refine o_add (c := ((i + 1 : Nat) : Int)) rfl rfl (by omega) (by omega) (by omega) ?_
    refine o_move ?_
    refine g_end (G.imp (hQ_ .normal _) ?_)
    clear hQ_ Q_
    try refine g_then ?_
    repeat (first | refine g_endt ?_ | refine g_end ?_ | refine g_then ?_ | refine g_in_normal ?_ | refine g_then_ret ?_ | refine g_in_ret ?_ | refine g_then_exit ?_ | refine g_in_exit rfl ?_ | refine g_in_exit_ne (by decide) ?_ | refine g_seq ?_ | refine g_region ?_ | refine g_block ?_ | refine g_ret ?_ | refine g_return_n ?_ | refine g_exit ?_ | refine g_skip ?_)
    exact g_meets ⟨i + 1, hin⟩ (by show n - (i + 1) < n - i; omega) (Sat.mem ⟨rfl, rfl, rfl, rfl, rfl, rfl, trivial⟩)
  · first | refine g_seq (g_cond_f rfl (by simp; omega) ?_) | refine g_cond_f rfl (by simp; omega) ?_
    rw [List.take_of_length_le (by omega)]
    repeat (first | refine g_endt ?_ | refine g_end ?_ | refine g_then ?_ | refine g_in_normal ?_ | refine g_then_ret ?_ | refine g_in_ret ?_ | refine g_then_exit ?_ | refine g_in_exit rfl ?_ | refine g_in_exit_ne (by decide) ?_ | refine g_seq ?_ | refine g_region ?_ | refine g_block ?_ | refine g_ret ?_ | refine g_return_n ?_ | refine g_exit ?_ | refine g_skip ?_)
    refine g_hideR fun Q_ hQ_ => ?_
    refine o_move ?_
    refine o_func ?_
    refine o_call (without_spec m room ps hp 48 [.pointer (some ⟨c5, 0, none⟩)] (dropG nums) [SetANP b (setN nums), cNs c5 b] (fun p _ => Drop1_spec b c5 nums (by omega) p)) rfl rfl ?_
    rintro _ _ ⟨rfl, rfl⟩
    refine o_assign ?_
    refine g_end (G.imp (hQ_ .normal _) ?_)
    clear hQ_ Q_
    try refine g_then ?_
    repeat (first | refine g_endt ?_ | refine g_end ?_ | refine g_then ?_ | refine g_in_normal ?_ | refine g_then_ret ?_ | refine g_in_ret ?_ | refine g_then_exit ?_ | refine g_in_exit rfl ?_ | refine g_in_exit_ne (by decide) ?_ | refine g_seq ?_ | refine g_region ?_ | refine g_block ?_ | refine g_ret ?_ | refine g_return_n ?_ | refine g_exit ?_ | refine g_skip ?_)
    exact ret1 (K := [MemP m room (goneR ps (dropG nums)), psl encI 1 A nums]) rfl (resT rfl) ⟨rfl, rfl⟩
end Go.Proofs.YtonaccfoelgpnaaGreat
/- Things told one by one, as values; a list that grows in a variable. -/
namespace Go.Proofs.YtonaccfoelgpnaaGreat
open Go Go.Sl
attribute [local irreducible] Code.wpIn roundPost bodyPostM runL Ret Meets Begin

def encVP (x : PrefD) : List Value := [PrefD.val x]
/-- A list that grows, in a variable. -/
def GrowP (p : Nat) (pre : List PrefD) : SProp := ex fun r : Option Addr × Nat => sl [cellsB p #[.slice r.1 pre.length r.2] 31, osl 41 encP 16 r.1 r.2 pre]
section
variable {w0 : World} {A : SProp} {L M : List SProp} {Φ : World → Prop}
theorem openGP (p : Nat) (pre : List PrefD) [tk : Take1 L (GrowP p pre) M] (h : ∀ S c, G w0 A (cellsB p #[.slice S pre.length c] 31 :: osl 41 encP 16 S c pre :: M) Φ) : G w0 A L Φ :=
  G.perm tk.perm (G.ex fun ⟨S, c⟩ => G.open_sl (h S c))
theorem shutGP (p : Nat) (pre : List PrefD) (S : Option Addr) (c : Nat) {n : Nat} (hn : pre.length = n) [tk : Take L [cellsB p #[.slice S n c] 31, osl 41 encP 16 S c pre] M] (h : G w0 A (GrowP p pre :: M) Φ) : G w0 A L Φ := by
  subst hn
  exact G.perm tk.perm (G.ent ((sl_append_to _ M).trans (Ent.star (show Ent _ (GrowP p pre) from fun _ _ x => ⟨(S, c), x⟩) (Ent.refl _))) h)
theorem newGP (p : Nat) [tk : Take1 L (cellsB p #[.slice none 0 0] 31) M] (h : G w0 A (GrowP p [] :: M) Φ) : G w0 A L Φ :=
  G.perm tk.perm (G.nil_slice 41 encP 16 (shutGP p [] none 0 rfl (M := M) (tk := ⟨List.Perm.swap _ _ _⟩) h))
end
end Go.Proofs.YtonaccfoelgpnaaGreat
/- Preference memory: lists told, slots. -/
namespace Go.Proofs.YtonaccfoelgpnaaGreat
open Go Go.Sl
attribute [local irreducible] Exit.then Exit.inBlock Code.wpIn roundPost bodyPostM runL Ret Meets MeetsD Begin

abbrev pFn (b : Nat) (lf : FuncId) (lb : List Value) : SProp := pblk b (.cells #[.func (.func lf) #[] lb.toArray] 80 (0, 0))
theorem told1_iter (b : Nat) (lf : FuncId) (lb : List Value) (xs : List PrefD) (hx : xs.length ≤ 1000000) (K0 : List SProp) [En Tryz.prog lf] (hl : Ctr Tryz.prog lf lb K0 (fun v M => ∃ S c, v = .slice S xs.length c ∧ M = psl encP 16 S xs :: K0)) (J0 : List SProp) {M : List SProp} [tk : Take J0 K0 M] [HasP J0 (pFn b lf lb)] :
    Iter Tryz.prog 60 [.pointer (some ⟨b, 0, none⟩)] encVP xs J0 := by
  intro l J Jx hJ hy
  subst hJ
  refine spec_of Tryz.func60 rfl Tryz.ntmps60 rfl fun w0 F => ?_
  -- hide
  -- ponder/pref.told$1
  refine G.dup (pFn b lf lb) ?_
  refine G.perm (L' := K0 ++ (pFn b lf lb :: M)) (((tk.perm).cons _).trans List.perm_middle.symm) ?_
  repeat (first | refine g_endt ?_ | refine g_end ?_ | refine g_then ?_ | refine g_in_normal ?_ | refine g_then_ret ?_ | refine g_in_ret ?_ | refine g_then_exit ?_ | refine g_in_exit rfl ?_ | refine g_in_exit_ne (by decide) ?_ | refine g_seq ?_ | refine g_region ?_ | refine g_block ?_ | refine g_ret ?_ | refine g_return_n ?_ | refine g_exit ?_ | refine g_skip ?_)
  refine g_hideR fun Q_ hQ_ => ?_
  refine o_load1 (v := .func (.func lf) #[] lb.toArray) rfl rfl ?_
  refine o_callc (M := pFn b lf lb :: M) (t := ⟨.refl _⟩) hl rfl rfl rfl ?_
  rintro _ _ ⟨S, c, rfl, rfl⟩
  refine o_len rfl rfl ?_
  refine o_move ?_
  refine g_end (G.imp (hQ_ .normal _) ?_)
  clear hQ_ Q_
  try refine g_then ?_
  refine G.ent (L := (psl encP 16 S xs :: K0) ++ (pFn b lf lb :: M)) (L' := psl encP 16 S xs :: J []) ((Ent.refl _).star ((sl_perm List.perm_middle).trans ((Ent.right _ _).trans (sl_perm tk.perm.symm)))) ?_
  repeat (first | refine g_endt ?_ | refine g_end ?_ | refine g_then ?_ | refine g_in_normal ?_ | refine g_then_ret ?_ | refine g_in_ret ?_ | refine g_then_exit ?_ | refine g_in_exit rfl ?_ | refine g_in_exit_ne (by decide) ?_ | refine g_seq ?_ | refine g_region ?_ | refine g_block ?_ | refine g_ret ?_ | refine g_return_n ?_ | refine g_exit ?_ | refine g_skip ?_)
  refine g_loop (σ := {i : Nat // i ≤ xs.length}) (S := fun i => [(0, .func (.yield l) #[] #[]), (6, .slice S xs.length c), (7, .int .i64 (xs.length : Int)), (8, .int .i64 (i.1 : Int))])
    (H := fun i => psl encP 16 S xs :: J (xs.take i.1)) (μ := fun i => xs.length - i.1) (s0 := ⟨0, Nat.zero_le _⟩) (Sat.mem ⟨rfl, rfl, rfl, rfl, trivial⟩) (t := by simp only [List.take_zero]; infer_instance) ?_
  rintro ⟨i, hi⟩ ρ'
  dsimp only at hi ⊢
  repeat (first | refine g_endt ?_ | refine g_end ?_ | refine g_then ?_ | refine g_in_normal ?_ | refine g_then_ret ?_ | refine g_in_ret ?_ | refine g_then_exit ?_ | refine g_in_exit rfl ?_ | refine g_in_exit_ne (by decide) ?_ | refine g_seq ?_ | refine g_region ?_ | refine g_block ?_ | refine g_ret ?_ | refine g_return_n ?_ | refine g_exit ?_ | refine g_skip ?_)
  refine g_hideR fun Q_ hQ_ => ?_
  refine o_lss rfl rfl ?_
  refine g_end (G.imp (hQ_ .normal _) ?_)
  clear hQ_ Q_
  try refine g_then ?_
  by_cases h : i < xs.length
  · first | refine g_seq (g_cond_t rfl (by first | rfl | (simp; done) | (simp; omega) | (simp; assumption)) ?_) | refine g_cond_t rfl (by first | rfl | (simp; done) | (simp; omega) | (simp; assumption)) ?_
    obtain ⟨y, hz⟩ : ∃ y, xs[i]? = some y := ⟨_, List.getElem?_eq_getElem h⟩
    have ht := take_snoc xs i _ hz
    have hp : (xs.take i ++ [y]) <+: xs := ⟨xs.drop (i + 1), by rw [← ht, List.take_append_drop]⟩
    repeat (first | refine g_endt ?_ | refine g_end ?_ | refine g_then ?_ | refine g_in_normal ?_ | refine g_then_ret ?_ | refine g_in_ret ?_ | refine g_then_exit ?_ | refine g_in_exit rfl ?_ | refine g_in_exit_ne (by decide) ?_ | refine g_seq ?_ | refine g_region ?_ | refine g_block ?_ | refine g_ret ?_ | refine g_return_n ?_ | refine g_exit ?_ | refine g_skip ?_)
    repeat (first | refine g_endt ?_ | refine g_end ?_ | refine g_then ?_ | refine g_in_normal ?_ | refine g_then_ret ?_ | refine g_in_ret ?_ | refine g_then_exit ?_ | refine g_in_exit rfl ?_ | refine g_in_exit_ne (by decide) ?_ | refine g_seq ?_ | refine g_region ?_ | refine g_block ?_ | refine g_ret ?_ | refine g_return_n ?_ | refine g_exit ?_ | refine g_skip ?_)
    refine g_hideR fun Q_ hQ_ => ?_
    refine o_indexR (ys := xs) (i := i) rfl rfl rfl h rfl rfl ?_
    refine o_loadE (ys := xs) rfl rfl hz ?_
    refine o_alloc fun c4 => ?_
    refine o_store (v := y.val) rfl rfl rfl rfl rfl ?_
    refine g_end (G.imp (hQ_ .normal _) ?_)
    clear hQ_ Q_
    try refine g_then ?_
    refine G.norm c4 y.val.cells rfl ?_
    repeat (first | refine g_endt ?_ | refine g_end ?_ | refine g_then ?_ | refine g_in_normal ?_ | refine g_then_ret ?_ | refine g_in_ret ?_ | refine g_then_exit ?_ | refine g_in_exit rfl ?_ | refine g_in_exit_ne (by decide) ?_ | refine g_seq ?_ | refine g_region ?_ | refine g_block ?_ | refine g_ret ?_ | refine g_return_n ?_ | refine g_exit ?_ | refine g_skip ?_)
    refine o_move ?_
    refine o_loadN (v := y.val) rfl rfl rfl ?_
    refine o_yield (hy (xs.take i) y hp) rfl rfl ?_ ?_
    · refine o_not rfl ?_
      refine g_endt ?_
      refine g_cond_f rfl rfl ?_
      repeat (first | refine g_endt ?_ | refine g_end ?_ | refine g_then ?_ | refine g_in_normal ?_ | refine g_then_ret ?_ | refine g_in_ret ?_ | refine g_then_exit ?_ | refine g_in_exit rfl ?_ | refine g_in_exit_ne (by decide) ?_ | refine g_seq ?_ | refine g_region ?_ | refine g_block ?_ | refine g_ret ?_ | refine g_return_n ?_ | refine g_exit ?_ | refine g_skip ?_)
      repeat (first | refine g_endt ?_ | refine g_end ?_ | refine g_then ?_ | refine g_in_normal ?_ | refine g_then_ret ?_ | refine g_in_ret ?_ | refine g_then_exit ?_ | refine g_in_exit rfl ?_ | refine g_in_exit_ne (by decide) ?_ | refine g_seq ?_ | refine g_region ?_ | refine g_block ?_ | refine g_ret ?_ | refine g_return_n ?_ | refine g_exit ?_ | refine g_skip ?_)
      refine g_hideR fun Q_ hQ_ => ?_
      refine o_add (c := ((i + 1 : Nat) : Int)) rfl rfl (by omega) (by omega) (by omega) ?_
      refine o_move ?_
      refine g_end (G.imp (hQ_ .normal _) ?_)
      clear hQ_ Q_
      try refine g_then ?_
      repeat (first | refine g_endt ?_ | refine g_end ?_ | refine g_then ?_ | refine g_in_normal ?_ | refine g_then_ret ?_ | refine g_in_ret ?_ | refine g_then_exit ?_ | refine g_in_exit rfl ?_ | refine g_in_exit_ne (by decide) ?_ | refine g_seq ?_ | refine g_region ?_ | refine g_block ?_ | refine g_ret ?_ | refine g_return_n ?_ | refine g_exit ?_ | refine g_skip ?_)
      exact g_meets ⟨i + 1, h⟩ (by show xs.length - (i + 1) < xs.length - i; omega) (Sat.mem ⟨rfl, rfl, rfl, rfl, trivial⟩) (t := by rw [ht]; infer_instance)
    · refine o_not rfl ?_
      refine g_endt ?_
      refine g_cond_t rfl rfl ?_
      repeat (first | refine g_endt ?_ | refine g_end ?_ | refine g_then ?_ | refine g_in_normal ?_ | refine g_then_ret ?_ | refine g_in_ret ?_ | refine g_then_exit ?_ | refine g_in_exit rfl ?_ | refine g_in_exit_ne (by decide) ?_ | refine g_seq ?_ | refine g_region ?_ | refine g_block ?_ | refine g_ret ?_ | refine g_return_n ?_ | refine g_exit ?_ | refine g_skip ?_)
      exact ret0 rfl (.inr ⟨_, hp, rfl⟩)
  · first | refine g_seq (g_cond_f rfl (by simp; omega) ?_) | refine g_cond_f rfl (by simp; omega) ?_
    repeat (first | refine g_endt ?_ | refine g_end ?_ | refine g_then ?_ | refine g_in_normal ?_ | refine g_then_ret ?_ | refine g_in_ret ?_ | refine g_then_exit ?_ | refine g_in_exit rfl ?_ | refine g_in_exit_ne (by decide) ?_ | refine g_seq ?_ | refine g_region ?_ | refine g_block ?_ | refine g_ret ?_ | refine g_return_n ?_ | refine g_exit ?_ | refine g_skip ?_)
    have he : xs.take i = xs := List.take_of_length_le (by omega)
    exact ret0 (K := J (xs.take i)) rfl (.inl (by rw [he]))
theorem told_spec (lf : FuncId) (lb : List Value) : Ctr Tryz.prog 34 [.func (.func lf) #[] lb.toArray] []
    (fun v M => ∃ b, v = .func (.func 60) #[] #[.pointer (some ⟨b, 0, none⟩)] ∧ M = [pFn b lf lb]) := by
  refine spec_of Tryz.func34 rfl Tryz.ntmps34 rfl fun w0 F => ?_
  -- hide
  -- ponder/pref.told
  repeat (first | refine g_endt ?_ | refine g_end ?_ | refine g_then ?_ | refine g_in_normal ?_ | refine g_then_ret ?_ | refine g_in_ret ?_ | refine g_then_exit ?_ | refine g_in_exit rfl ?_ | refine g_in_exit_ne (by decide) ?_ | refine g_seq ?_ | refine g_region ?_ | refine g_block ?_ | refine g_ret ?_ | refine g_return_n ?_ | refine g_exit ?_ | refine g_skip ?_)
  refine o_boxc #[.func (.func lf) #[] lb.toArray] rfl rfl fun b => G.freeze <| ?_
  refine o_assign ?_
  first | refine g_endt ?_ | refine g_end ?_
  repeat (first | refine g_endt ?_ | refine g_end ?_ | refine g_then ?_ | refine g_in_normal ?_ | refine g_then_ret ?_ | refine g_in_ret ?_ | refine g_then_exit ?_ | refine g_in_exit rfl ?_ | refine g_in_exit_ne (by decide) ?_ | refine g_seq ?_ | refine g_region ?_ | refine g_block ?_ | refine g_ret ?_ | refine g_return_n ?_ | refine g_exit ?_ | refine g_skip ?_)
  refine o_func ?_
  refine o_assign ?_
  first | refine g_endt ?_ | refine g_end ?_
  repeat (first | refine g_endt ?_ | refine g_end ?_ | refine g_then ?_ | refine g_in_normal ?_ | refine g_then_ret ?_ | refine g_in_ret ?_ | refine g_then_exit ?_ | refine g_in_exit rfl ?_ | refine g_in_exit_ne (by decide) ?_ | refine g_seq ?_ | refine g_region ?_ | refine g_block ?_ | refine g_ret ?_ | refine g_return_n ?_ | refine g_exit ?_ | refine g_skip ?_)
  exact ret1 rfl (resT rfl) ⟨b, rfl, rfl⟩
/-! ### A slot -/
abbrev pM (b m : Nat) : SProp := pblk b (.cells #[.pointer (some ⟨m, 0, none⟩)] 23 (0, 0))
abbrev pSy (b : Nat) (s : SymD) : SProp := pblk b (.cells s.val.cells 39 (0, 0))
abbrev slK (m : Nat) (room : Int) (ps : List PrefD) (b1 b2 b3 : Nat) (id attr : SymD) : List SProp := [pM b1 m, pSy b2 id, pSy b3 attr, MemP m room ps]
set_option maxHeartbeats 1000000 in
theorem Slot1_spec (m : Nat) (room : Int) (ps : List PrefD) (hp : ps.length ≤ 100000) (b1 b2 b3 : Nat) (id attr : SymD) {xs : List PrefD} (hx : slotL ps ⟨id, attr⟩ = xs) : Ctr Tryz.prog 76 [.pointer (some ⟨b1, 0, none⟩), .pointer (some ⟨b2, 0, none⟩), .pointer (some ⟨b3, 0, none⟩)] (slK m room ps b1 b2 b3 id attr)
    (fun v M => ∃ S c, v = .slice S xs.length c ∧ M = psl encP 16 S xs :: slK m room ps b1 b2 b3 id attr) := by
  refine spec_of Tryz.func76 rfl Tryz.ntmps76 rfl fun w0 F => ?_
  -- hide
  -- (*ponder/pref.Memory).Slot$1
  refine openMm m room ps fun a c0 mp zs hI => ?_
  have hzl := hI.small
  repeat (first | refine g_endt ?_ | refine g_end ?_ | refine g_then ?_ | refine g_in_normal ?_ | refine g_then_ret ?_ | refine g_in_ret ?_ | refine g_then_exit ?_ | refine g_in_exit rfl ?_ | refine g_in_exit_ne (by decide) ?_ | refine g_seq ?_ | refine g_region ?_ | refine g_block ?_ | refine g_ret ?_ | refine g_return_n ?_ | refine g_exit ?_ | refine g_skip ?_)
  refine g_hideR fun Q_ hQ_ => ?_
  refine o_assign ?_
  refine g_end (G.imp (hQ_ .normal _) ?_)
  clear hQ_ Q_
  try refine g_then ?_
  obtain ⟨o, ho⟩ : ∃ o, getM PgSP.cmp zs ⟨⟨id, attr⟩, PgSP.zero.v⟩ = o := ⟨_, rfl⟩
  cases o with
  | some p =>
    obtain ⟨hk, _⟩ := srt_split hI.srt ho
    have hpm := (getM_mem ho).1
    have hpl := hI.len p hpm
    rw [hk, hx] at hpl
    repeat (first | refine g_endt ?_ | refine g_end ?_ | refine g_then ?_ | refine g_in_normal ?_ | refine g_then_ret ?_ | refine g_in_ret ?_ | refine g_then_exit ?_ | refine g_in_exit rfl ?_ | refine g_in_exit_ne (by decide) ?_ | refine g_seq ?_ | refine g_region ?_ | refine g_block ?_ | refine g_ret ?_ | refine g_return_n ?_ | refine g_exit ?_ | refine g_skip ?_)
    refine g_hide fun Q_ hQ_ => ?_
    refine g_draw [7] [0,1,2,3,4,5,6,7,8,9,10,11,12] [pM b1 m, pSy b2 id, pSy b3 attr, mC m room a ps.length c0 mp] mixed rfl ?_
    refine ob_q rfl rfl ⟨_, fun X Q h => o_load1 (v := .pointer (some ⟨m, 0, none⟩)) rfl rfl (g_end (h _ _ ⟨rfl, rfl⟩)), ?_⟩
    refine ob_q rfl rfl ⟨_, fun X Q h => o_nil rfl (g_end (h _ _ ⟨rfl, rfl⟩)), ?_⟩
    first | refine ob_q rfl rfl ⟨_, fun X Q h => o_field rfl (g_end (h _ _ ⟨rfl, rfl⟩)), ?_⟩ | refine ob_q rfl rfl ⟨_, fun X Q h => o_fieldR rfl (by omega) (g_end (h _ _ ⟨rfl, rfl⟩)), ?_⟩
    refine ob_q rfl rfl ⟨_, fun X Q h => o_load1 (v := .pointer (some ⟨mp, 0, none⟩)) rfl rfl (g_end (h _ _ ⟨rfl, rfl⟩)), ?_⟩
    refine ob_q rfl rfl ⟨_, fun X Q h => o_loadN (v := id.val) rfl rfl rfl (g_end (h _ _ ⟨rfl, rfl⟩)), ?_⟩
    refine ob_q rfl rfl ⟨_, fun X Q h => o_loadN (v := attr.val) rfl rfl rfl (g_end (h _ _ ⟨rfl, rfl⟩)), ?_⟩
    refine ob_q rfl rfl ⟨_, fun X Q h => o_build (SlotD.mk id attr).val (fun w => by kernel_rfl) (g_end (h _ _ ⟨rfl, rfl⟩)), ?_⟩
    refine ob_l rfl rfl fun Qz hz => o_call (GetSMSP_spec mp zs ⟨id, attr⟩ hI.srt (by omega) ho) rfl rfl ?_
    rintro _ _ ⟨rfl, rfl⟩
    refine g_end (hz _ _ ⟨_, ob_fin, ?_⟩)
    clear hz Qz
    refine ob_q rfl rfl ⟨_, fun X Q h => o_move (g_end (h _ _ ⟨rfl, rfl⟩)), ?_⟩
    refine ob_q rfl rfl ⟨_, fun X Q h => o_extract rfl rfl (g_end (h _ _ ⟨rfl, rfl⟩)), ?_⟩
    refine ob_q rfl rfl ⟨_, fun X Q h => o_extract rfl rfl (g_end (h _ _ ⟨rfl, rfl⟩)), ?_⟩
    refine ob_q rfl rfl ⟨_, fun X Q h => o_assign (g_end (h _ _ ⟨rfl, rfl⟩)), ?_⟩
    refine ob_q rfl rfl ⟨_, fun X Q h => o_assign (g_end (h _ _ ⟨rfl, rfl⟩)), ?_⟩
    refine ob_nil ?_
    refine G.imp (hQ_ .normal _) ?_
    clear hQ_ Q_
    try refine g_then ?_
    refine G.allGet (a := fun p : PgSP => p.v.a) (l := fun p => slotL ps p.k) (enc := encP) (sz := 16) (zs := zs) hpm ?_
    rw [hk, hx]
    refine shutMm m room ps a c0 mp zs hI rfl ?_
    repeat (first | refine g_endt ?_ | refine g_end ?_ | refine g_then ?_ | refine g_in_normal ?_ | refine g_then_ret ?_ | refine g_in_ret ?_ | refine g_then_exit ?_ | refine g_in_exit rfl ?_ | refine g_in_exit_ne (by decide) ?_ | refine g_seq ?_ | refine g_region ?_ | refine g_block ?_ | refine g_ret ?_ | refine g_return_n ?_ | refine g_exit ?_ | refine g_skip ?_)
    refine g_hideR fun Q_ hQ_ => ?_
    refine o_move ?_
    refine o_assign ?_
    refine g_end (G.imp (hQ_ .normal _) ?_)
    clear hQ_ Q_
    try refine g_then ?_
    repeat (first | refine g_endt ?_ | refine g_end ?_ | refine g_then ?_ | refine g_in_normal ?_ | refine g_then_ret ?_ | refine g_in_ret ?_ | refine g_then_exit ?_ | refine g_in_exit rfl ?_ | refine g_in_exit_ne (by decide) ?_ | refine g_seq ?_ | refine g_region ?_ | refine g_block ?_ | refine g_ret ?_ | refine g_return_n ?_ | refine g_exit ?_ | refine g_skip ?_)
    exact ret1 (K := psl encP 16 p.v.a xs :: slK m room ps b1 b2 b3 id attr) rfl (resT (v := .slice p.v.a p.v.len p.v.cap) rfl) ⟨p.v.a, p.v.cap, by rw [hpl], rfl⟩
  | none =>
    have hh : hasC PgSP.cmp zs ⟨⟨id, attr⟩, PgSP.zero.v⟩ = false := by rw [← getM_isSome, ho]; rfl
    have hnil : xs = [] := by
      rw [← hx]
      by_cases e : slotL ps ⟨id, attr⟩ = []
      · exact e
      · have := (hI.has ⟨id, attr⟩).2 e; rw [hh] at this; cases this
    subst hnil
    repeat (first | refine g_endt ?_ | refine g_end ?_ | refine g_then ?_ | refine g_in_normal ?_ | refine g_then_ret ?_ | refine g_in_ret ?_ | refine g_then_exit ?_ | refine g_in_exit rfl ?_ | refine g_in_exit_ne (by decide) ?_ | refine g_seq ?_ | refine g_region ?_ | refine g_block ?_ | refine g_ret ?_ | refine g_return_n ?_ | refine g_exit ?_ | refine g_skip ?_)
    refine g_hide fun Q_ hQ_ => ?_
    refine g_draw [7] [0,1,2,3,4,5,6,7,8,9,10,11,12] [pM b1 m, pSy b2 id, pSy b3 attr, mC m room a ps.length c0 mp] mixed rfl ?_
    refine ob_q rfl rfl ⟨_, fun X Q h => o_load1 (v := .pointer (some ⟨m, 0, none⟩)) rfl rfl (g_end (h _ _ ⟨rfl, rfl⟩)), ?_⟩
    refine ob_q rfl rfl ⟨_, fun X Q h => o_nil rfl (g_end (h _ _ ⟨rfl, rfl⟩)), ?_⟩
    first | refine ob_q rfl rfl ⟨_, fun X Q h => o_field rfl (g_end (h _ _ ⟨rfl, rfl⟩)), ?_⟩ | refine ob_q rfl rfl ⟨_, fun X Q h => o_fieldR rfl (by omega) (g_end (h _ _ ⟨rfl, rfl⟩)), ?_⟩
    refine ob_q rfl rfl ⟨_, fun X Q h => o_load1 (v := .pointer (some ⟨mp, 0, none⟩)) rfl rfl (g_end (h _ _ ⟨rfl, rfl⟩)), ?_⟩
    refine ob_q rfl rfl ⟨_, fun X Q h => o_loadN (v := id.val) rfl rfl rfl (g_end (h _ _ ⟨rfl, rfl⟩)), ?_⟩
    refine ob_q rfl rfl ⟨_, fun X Q h => o_loadN (v := attr.val) rfl rfl rfl (g_end (h _ _ ⟨rfl, rfl⟩)), ?_⟩
    refine ob_q rfl rfl ⟨_, fun X Q h => o_build (SlotD.mk id attr).val (fun w => by kernel_rfl) (g_end (h _ _ ⟨rfl, rfl⟩)), ?_⟩
    refine ob_l rfl rfl fun Qz hz => o_call (GetZMSP_spec mp zs ⟨id, attr⟩ hI.srt (by omega) ho) rfl rfl ?_
    rintro _ _ ⟨rfl, rfl⟩
    refine g_end (hz _ _ ⟨_, ob_fin, ?_⟩)
    clear hz Qz
    refine ob_q rfl rfl ⟨_, fun X Q h => o_move (g_end (h _ _ ⟨rfl, rfl⟩)), ?_⟩
    refine ob_q rfl rfl ⟨_, fun X Q h => o_extract rfl rfl (g_end (h _ _ ⟨rfl, rfl⟩)), ?_⟩
    refine ob_q rfl rfl ⟨_, fun X Q h => o_extract rfl rfl (g_end (h _ _ ⟨rfl, rfl⟩)), ?_⟩
    refine ob_q rfl rfl ⟨_, fun X Q h => o_assign (g_end (h _ _ ⟨rfl, rfl⟩)), ?_⟩
    refine ob_q rfl rfl ⟨_, fun X Q h => o_assign (g_end (h _ _ ⟨rfl, rfl⟩)), ?_⟩
    refine ob_nil ?_
    refine G.imp (hQ_ .normal _) ?_
    clear hQ_ Q_
    try refine g_then ?_
    refine G.psl_nil (α := PrefD) encP 16 ?_
    refine shutMm m room ps a c0 mp zs hI rfl ?_
    repeat (first | refine g_endt ?_ | refine g_end ?_ | refine g_then ?_ | refine g_in_normal ?_ | refine g_then_ret ?_ | refine g_in_ret ?_ | refine g_then_exit ?_ | refine g_in_exit rfl ?_ | refine g_in_exit_ne (by decide) ?_ | refine g_seq ?_ | refine g_region ?_ | refine g_block ?_ | refine g_ret ?_ | refine g_return_n ?_ | refine g_exit ?_ | refine g_skip ?_)
    refine g_hideR fun Q_ hQ_ => ?_
    refine o_move ?_
    refine o_assign ?_
    refine g_end (G.imp (hQ_ .normal _) ?_)
    clear hQ_ Q_
    try refine g_then ?_
    repeat (first | refine g_endt ?_ | refine g_end ?_ | refine g_then ?_ | refine g_in_normal ?_ | refine g_then_ret ?_ | refine g_in_ret ?_ | refine g_then_exit ?_ | refine g_in_exit rfl ?_ | refine g_in_exit_ne (by decide) ?_ | refine g_seq ?_ | refine g_region ?_ | refine g_block ?_ | refine g_ret ?_ | refine g_return_n ?_ | refine g_exit ?_ | refine g_skip ?_)
    exact ret1 (K := psl encP 16 none [] :: slK m room ps b1 b2 b3 id attr) rfl (resT (v := .slice none 0 0) rfl) ⟨none, 0, rfl, rfl⟩
abbrev toldK (b b1 b2 b3 m : Nat) (id attr : SymD) : List SProp := [pFn b 76 [.pointer (some ⟨b1, 0, none⟩), .pointer (some ⟨b2, 0, none⟩), .pointer (some ⟨b3, 0, none⟩)], pM b1 m, pSy b2 id, pSy b3 attr]
theorem Slot17_spec (m : Nat) (id attr : SymD) : Ctr Tryz.prog 50 [.pointer (some ⟨m, 0, none⟩), id.val, attr.val] []
    (fun v M => ∃ b b1 b2 b3, v = .func (.func 60) #[] #[.pointer (some ⟨b, 0, none⟩)] ∧ M = toldK b b1 b2 b3 m id attr) := by
  refine spec_of Tryz.func50 rfl Tryz.ntmps50 rfl fun w0 F => ?_
  -- hide
  -- (*ponder/pref.Memory).Slot
  repeat (first | refine g_endt ?_ | refine g_end ?_ | refine g_then ?_ | refine g_in_normal ?_ | refine g_then_ret ?_ | refine g_in_ret ?_ | refine g_then_exit ?_ | refine g_in_exit rfl ?_ | refine g_in_exit_ne (by decide) ?_ | refine g_seq ?_ | refine g_region ?_ | refine g_block ?_ | refine g_ret ?_ | refine g_return_n ?_ | refine g_exit ?_ | refine g_skip ?_)
  refine o_boxc #[.pointer (some ⟨m, 0, none⟩)] rfl rfl fun b1 => G.freeze <| ?_
  refine o_boxc id.val.cells rfl rfl fun b2 => G.freeze <| ?_
  refine o_boxc attr.val.cells rfl rfl fun b3 => G.freeze <| ?_
  refine o_assign ?_
  first | refine g_endt ?_ | refine g_end ?_
  repeat (first | refine g_endt ?_ | refine g_end ?_ | refine g_then ?_ | refine g_in_normal ?_ | refine g_then_ret ?_ | refine g_in_ret ?_ | refine g_then_exit ?_ | refine g_in_exit rfl ?_ | refine g_in_exit_ne (by decide) ?_ | refine g_seq ?_ | refine g_region ?_ | refine g_block ?_ | refine g_ret ?_ | refine g_return_n ?_ | refine g_exit ?_ | refine g_skip ?_)
  refine o_func ?_
  refine o_call (told_spec 76 [.pointer (some ⟨b1, 0, none⟩), .pointer (some ⟨b2, 0, none⟩), .pointer (some ⟨b3, 0, none⟩)]) rfl rfl ?_
  rintro _ _ ⟨b, rfl, rfl⟩
  refine o_assign ?_
  first | refine g_endt ?_ | refine g_end ?_
  repeat (first | refine g_endt ?_ | refine g_end ?_ | refine g_then ?_ | refine g_in_normal ?_ | refine g_then_ret ?_ | refine g_in_ret ?_ | refine g_then_exit ?_ | refine g_in_exit rfl ?_ | refine g_in_exit_ne (by decide) ?_ | refine g_seq ?_ | refine g_region ?_ | refine g_block ?_ | refine g_ret ?_ | refine g_return_n ?_ | refine g_exit ?_ | refine g_skip ?_)
  exact ret1 (K := toldK b b1 b2 b3 m id attr) rfl (resT rfl) ⟨b, b1, b2, b3, rfl, rfl⟩
/-- A slot's preferences, told. -/
theorem slot_iter (m : Nat) (room : Int) (ps : List PrefD) (hp : ps.length ≤ 100000) (b b1 b2 b3 : Nat) (id attr : SymD) {xs : List PrefD} (hx : slotL ps ⟨id, attr⟩ = xs) (J0 : List SProp) {M : List SProp} [Take J0 (slK m room ps b1 b2 b3 id attr) M] [HasP J0 (pFn b 76 [.pointer (some ⟨b1, 0, none⟩), .pointer (some ⟨b2, 0, none⟩), .pointer (some ⟨b3, 0, none⟩)])] :
    Iter Tryz.prog 60 [.pointer (some ⟨b, 0, none⟩)] encVP xs J0 := by
  have hxl : xs.length ≤ ps.length := by rw [← hx]; exact List.length_filter_le _ _
  exact told1_iter b 76 [.pointer (some ⟨b1, 0, none⟩), .pointer (some ⟨b2, 0, none⟩), .pointer (some ⟨b3, 0, none⟩)] xs (by omega) (slK m room ps b1 b2 b3 id attr) (Slot1_spec m room ps hp b1 b2 b3 id attr hx) J0
end Go.Proofs.YtonaccfoelgpnaaGreat
/- Elements held against each other, by the program. -/
namespace Go.Proofs.YtonaccfoelgpnaaGreat
open Go Go.Sl
attribute [local irreducible] Code.wpIn roundPost bodyPostM runL Ret Meets Begin

theorem CompareElem_spec (a b : ElemD) : Ctr Tryz.prog 120 [a.val, b.val] [] (fun v M => v = .int .i64 (a.cmp b) ∧ M = []) := by
  refine spec_of Tryz.func120 rfl Tryz.ntmps120 rfl fun w0 F => ?_
  -- (ponder/api.Elem).Compare
  repeat (first | refine g_endt ?_ | refine g_end ?_ | refine g_then ?_ | refine g_in_normal ?_ | refine g_then_ret ?_ | refine g_in_ret ?_ | refine g_then_exit ?_ | refine g_in_exit rfl ?_ | refine g_in_exit_ne (by decide) ?_ | refine g_seq ?_ | refine g_region ?_ | refine g_block ?_ | refine g_ret ?_ | refine g_return_n ?_ | refine g_exit ?_ | refine g_skip ?_)
  refine o_boxc a.val.cells rfl rfl fun p => ?_
  refine o_boxc b.val.cells rfl rfl fun q => ?_
  refine o_assign ?_
  first | refine g_endt ?_ | refine g_end ?_
  repeat (first | refine g_endt ?_ | refine g_end ?_ | refine g_then ?_ | refine g_in_normal ?_ | refine g_then_ret ?_ | refine g_in_ret ?_ | refine g_then_exit ?_ | refine g_in_exit rfl ?_ | refine g_in_exit_ne (by decide) ?_ | refine g_seq ?_ | refine g_region ?_ | refine g_block ?_ | refine g_ret ?_ | refine g_return_n ?_ | refine g_exit ?_ | refine g_skip ?_)
  first | refine o_field rfl ?_ | refine o_fieldR rfl (by omega) ?_
  refine o_loadN (v := a.id.val) rfl rfl rfl ?_
  first | refine o_field rfl ?_ | refine o_fieldR rfl (by omega) ?_
  refine o_loadN (v := b.id.val) rfl rfl rfl ?_
  refine o_call (CompareSym_spec a.id b.id) rfl rfl ?_
  rintro _ _ ⟨rfl, rfl⟩
  refine o_assign ?_
  first | refine g_endt ?_ | refine g_end ?_
  repeat (first | refine g_endt ?_ | refine g_end ?_ | refine g_then ?_ | refine g_in_normal ?_ | refine g_then_ret ?_ | refine g_in_ret ?_ | refine g_then_exit ?_ | refine g_in_exit rfl ?_ | refine g_in_exit_ne (by decide) ?_ | refine g_seq ?_ | refine g_region ?_ | refine g_block ?_ | refine g_ret ?_ | refine g_return_n ?_ | refine g_exit ?_ | refine g_skip ?_)
  refine o_move ?_
  refine o_neq rfl rfl ?_
  first | refine g_endt ?_ | refine g_end ?_
  by_cases h1 : a.id.cmp b.id = 0
  · first | refine g_seq (g_cond_f rfl (by simpa using h1) ?_) | refine g_cond_f rfl (by simpa using h1) ?_
    repeat (first | refine g_endt ?_ | refine g_end ?_ | refine g_then ?_ | refine g_in_normal ?_ | refine g_then_ret ?_ | refine g_in_ret ?_ | refine g_then_exit ?_ | refine g_in_exit rfl ?_ | refine g_in_exit_ne (by decide) ?_ | refine g_seq ?_ | refine g_region ?_ | refine g_block ?_ | refine g_ret ?_ | refine g_return_n ?_ | refine g_exit ?_ | refine g_skip ?_)
    first | refine o_field rfl ?_ | refine o_fieldR rfl (by omega) ?_
    refine o_loadN (v := a.attr.val) rfl rfl rfl ?_
    first | refine o_field rfl ?_ | refine o_fieldR rfl (by omega) ?_
    refine o_loadN (v := b.attr.val) rfl rfl rfl ?_
    refine o_call (CompareSym_spec a.attr b.attr) rfl rfl ?_
    rintro _ _ ⟨rfl, rfl⟩
    refine o_assign ?_
    first | refine g_endt ?_ | refine g_end ?_
    repeat (first | refine g_endt ?_ | refine g_end ?_ | refine g_then ?_ | refine g_in_normal ?_ | refine g_then_ret ?_ | refine g_in_ret ?_ | refine g_then_exit ?_ | refine g_in_exit rfl ?_ | refine g_in_exit_ne (by decide) ?_ | refine g_seq ?_ | refine g_region ?_ | refine g_block ?_ | refine g_ret ?_ | refine g_return_n ?_ | refine g_exit ?_ | refine g_skip ?_)
    refine o_move ?_
    refine o_neq rfl rfl ?_
    first | refine g_endt ?_ | refine g_end ?_
    by_cases h2 : a.attr.cmp b.attr = 0
    · first | refine g_seq (g_cond_f rfl (by simpa using h2) ?_) | refine g_cond_f rfl (by simpa using h2) ?_
      repeat (first | refine g_endt ?_ | refine g_end ?_ | refine g_then ?_ | refine g_in_normal ?_ | refine g_then_ret ?_ | refine g_in_ret ?_ | refine g_then_exit ?_ | refine g_in_exit rfl ?_ | refine g_in_exit_ne (by decide) ?_ | refine g_seq ?_ | refine g_region ?_ | refine g_block ?_ | refine g_ret ?_ | refine g_return_n ?_ | refine g_exit ?_ | refine g_skip ?_)
      first | refine o_field rfl ?_ | refine o_fieldR rfl (by omega) ?_
      refine o_loadN (v := a.value.val) rfl rfl rfl ?_
      first | refine o_field rfl ?_ | refine o_fieldR rfl (by omega) ?_
      refine o_loadN (v := b.value.val) rfl rfl rfl ?_
      refine o_call (CompareSym_spec a.value b.value) rfl rfl ?_
      rintro _ _ ⟨rfl, rfl⟩
      refine o_assign ?_
      first | refine g_endt ?_ | refine g_end ?_
      repeat (first | refine g_endt ?_ | refine g_end ?_ | refine g_then ?_ | refine g_in_normal ?_ | refine g_then_ret ?_ | refine g_in_ret ?_ | refine g_then_exit ?_ | refine g_in_exit rfl ?_ | refine g_in_exit_ne (by decide) ?_ | refine g_seq ?_ | refine g_region ?_ | refine g_block ?_ | refine g_ret ?_ | refine g_return_n ?_ | refine g_exit ?_ | refine g_skip ?_)
      refine o_move ?_
      refine o_neq rfl rfl ?_
      first | refine g_endt ?_ | refine g_end ?_
      by_cases h3 : a.value.cmp b.value = 0
      · first | refine g_seq (g_cond_f rfl (by simpa using h3) ?_) | refine g_cond_f rfl (by simpa using h3) ?_
        repeat (first | refine g_endt ?_ | refine g_end ?_ | refine g_then ?_ | refine g_in_normal ?_ | refine g_then_ret ?_ | refine g_in_ret ?_ | refine g_then_exit ?_ | refine g_in_exit rfl ?_ | refine g_in_exit_ne (by decide) ?_ | refine g_seq ?_ | refine g_region ?_ | refine g_block ?_ | refine g_ret ?_ | refine g_return_n ?_ | refine g_exit ?_ | refine g_skip ?_)
        first | refine o_field rfl ?_ | refine o_fieldR rfl (by omega) ?_
        refine o_load1 (v := .bool a.acc) rfl rfl ?_
        first | refine o_field rfl ?_ | refine o_fieldR rfl (by omega) ?_
        refine o_load1 (v := .bool b.acc) rfl rfl ?_
        refine o_eqty rfl rfl (eq_bool a.acc b.acc) ?_
        refine o_assign ?_
        first | refine g_endt ?_ | refine g_end ?_
        by_cases h4 : a.acc = b.acc
        · first | refine g_seq (g_cond_t rfl (by simpa using h4) ?_) | refine g_cond_t rfl (by simpa using h4) ?_
          repeat (first | refine g_endt ?_ | refine g_end ?_ | refine g_then ?_ | refine g_in_normal ?_ | refine g_then_ret ?_ | refine g_in_ret ?_ | refine g_then_exit ?_ | refine g_in_exit rfl ?_ | refine g_in_exit_ne (by decide) ?_ | refine g_seq ?_ | refine g_region ?_ | refine g_block ?_ | refine g_ret ?_ | refine g_return_n ?_ | refine g_exit ?_ | refine g_skip ?_)
          refine o_assign ?_
          first | refine g_endt ?_ | refine g_end ?_
          repeat (first | refine g_endt ?_ | refine g_end ?_ | refine g_then ?_ | refine g_in_normal ?_ | refine g_then_ret ?_ | refine g_in_ret ?_ | refine g_then_exit ?_ | refine g_in_exit rfl ?_ | refine g_in_exit_ne (by decide) ?_ | refine g_seq ?_ | refine g_region ?_ | refine g_block ?_ | refine g_ret ?_ | refine g_return_n ?_ | refine g_exit ?_ | refine g_skip ?_)
          exact ret1 rfl (resT (v := .int .i64 0) rfl) ⟨by simp [ElemD.cmp, lex, h1, h2, h3, cmpB, h4], rfl⟩
        · first | refine g_seq (g_cond_f rfl (by simpa using h4) ?_) | refine g_cond_f rfl (by simpa using h4) ?_
          repeat (first | refine g_endt ?_ | refine g_end ?_ | refine g_then ?_ | refine g_in_normal ?_ | refine g_then_ret ?_ | refine g_in_ret ?_ | refine g_then_exit ?_ | refine g_in_exit rfl ?_ | refine g_in_exit_ne (by decide) ?_ | refine g_seq ?_ | refine g_region ?_ | refine g_block ?_ | refine g_ret ?_ | refine g_return_n ?_ | refine g_exit ?_ | refine g_skip ?_)
          first | refine o_field rfl ?_ | refine o_fieldR rfl (by omega) ?_
          refine o_load1 (v := .bool b.acc) rfl rfl ?_
          refine o_assign ?_
          first | refine g_endt ?_ | refine g_end ?_
          cases hb : b.acc with
          | true =>
            first | refine g_seq (g_cond_t rfl (by first | rfl | (simp; done) | (simp; omega) | (simp; assumption)) ?_) | refine g_cond_t rfl (by first | rfl | (simp; done) | (simp; omega) | (simp; assumption)) ?_
            repeat (first | refine g_endt ?_ | refine g_end ?_ | refine g_then ?_ | refine g_in_normal ?_ | refine g_then_ret ?_ | refine g_in_ret ?_ | refine g_then_exit ?_ | refine g_in_exit rfl ?_ | refine g_in_exit_ne (by decide) ?_ | refine g_seq ?_ | refine g_region ?_ | refine g_block ?_ | refine g_ret ?_ | refine g_return_n ?_ | refine g_exit ?_ | refine g_skip ?_)
            refine o_assign ?_
            first | refine g_endt ?_ | refine g_end ?_
            repeat (first | refine g_endt ?_ | refine g_end ?_ | refine g_then ?_ | refine g_in_normal ?_ | refine g_then_ret ?_ | refine g_in_ret ?_ | refine g_then_exit ?_ | refine g_in_exit rfl ?_ | refine g_in_exit_ne (by decide) ?_ | refine g_seq ?_ | refine g_region ?_ | refine g_block ?_ | refine g_ret ?_ | refine g_return_n ?_ | refine g_exit ?_ | refine g_skip ?_)
            exact ret1 rfl (resT (v := .int .i64 (-1)) rfl) ⟨by rw [hb] at h4; simp [ElemD.cmp, lex, h1, h2, h3, cmpB, h4, hb], rfl⟩
          | false =>
            first | refine g_seq (g_cond_f rfl (by first | rfl | (simp; done) | (simp; omega) | (simp; assumption)) ?_) | refine g_cond_f rfl (by first | rfl | (simp; done) | (simp; omega) | (simp; assumption)) ?_
            repeat (first | refine g_endt ?_ | refine g_end ?_ | refine g_then ?_ | refine g_in_normal ?_ | refine g_then_ret ?_ | refine g_in_ret ?_ | refine g_then_exit ?_ | refine g_in_exit rfl ?_ | refine g_in_exit_ne (by decide) ?_ | refine g_seq ?_ | refine g_region ?_ | refine g_block ?_ | refine g_ret ?_ | refine g_return_n ?_ | refine g_exit ?_ | refine g_skip ?_)
            refine o_assign ?_
            first | refine g_endt ?_ | refine g_end ?_
            repeat (first | refine g_endt ?_ | refine g_end ?_ | refine g_then ?_ | refine g_in_normal ?_ | refine g_then_ret ?_ | refine g_in_ret ?_ | refine g_then_exit ?_ | refine g_in_exit rfl ?_ | refine g_in_exit_ne (by decide) ?_ | refine g_seq ?_ | refine g_region ?_ | refine g_block ?_ | refine g_ret ?_ | refine g_return_n ?_ | refine g_exit ?_ | refine g_skip ?_)
            exact ret1 rfl (resT (v := .int .i64 1) rfl) ⟨by rw [hb] at h4; simp [ElemD.cmp, lex, h1, h2, h3, cmpB, h4, hb], rfl⟩
      · first | refine g_seq (g_cond_t rfl (by simpa using h3) ?_) | refine g_cond_t rfl (by simpa using h3) ?_
        repeat (first | refine g_endt ?_ | refine g_end ?_ | refine g_then ?_ | refine g_in_normal ?_ | refine g_then_ret ?_ | refine g_in_ret ?_ | refine g_then_exit ?_ | refine g_in_exit rfl ?_ | refine g_in_exit_ne (by decide) ?_ | refine g_seq ?_ | refine g_region ?_ | refine g_block ?_ | refine g_ret ?_ | refine g_return_n ?_ | refine g_exit ?_ | refine g_skip ?_)
        refine o_move ?_
        refine o_assign ?_
        first | refine g_endt ?_ | refine g_end ?_
        repeat (first | refine g_endt ?_ | refine g_end ?_ | refine g_then ?_ | refine g_in_normal ?_ | refine g_then_ret ?_ | refine g_in_ret ?_ | refine g_then_exit ?_ | refine g_in_exit rfl ?_ | refine g_in_exit_ne (by decide) ?_ | refine g_seq ?_ | refine g_region ?_ | refine g_block ?_ | refine g_ret ?_ | refine g_return_n ?_ | refine g_exit ?_ | refine g_skip ?_)
        exact ret1 rfl (resT (v := .int .i64 (a.value.cmp b.value)) rfl) ⟨by simp [ElemD.cmp, lex, h1, h2, h3], rfl⟩
    · first | refine g_seq (g_cond_t rfl (by simpa using h2) ?_) | refine g_cond_t rfl (by simpa using h2) ?_
      repeat (first | refine g_endt ?_ | refine g_end ?_ | refine g_then ?_ | refine g_in_normal ?_ | refine g_then_ret ?_ | refine g_in_ret ?_ | refine g_then_exit ?_ | refine g_in_exit rfl ?_ | refine g_in_exit_ne (by decide) ?_ | refine g_seq ?_ | refine g_region ?_ | refine g_block ?_ | refine g_ret ?_ | refine g_return_n ?_ | refine g_exit ?_ | refine g_skip ?_)
      refine o_move ?_
      refine o_assign ?_
      first | refine g_endt ?_ | refine g_end ?_
      repeat (first | refine g_endt ?_ | refine g_end ?_ | refine g_then ?_ | refine g_in_normal ?_ | refine g_then_ret ?_ | refine g_in_ret ?_ | refine g_then_exit ?_ | refine g_in_exit rfl ?_ | refine g_in_exit_ne (by decide) ?_ | refine g_seq ?_ | refine g_region ?_ | refine g_block ?_ | refine g_ret ?_ | refine g_return_n ?_ | refine g_exit ?_ | refine g_skip ?_)
      exact ret1 rfl (resT (v := .int .i64 (a.attr.cmp b.attr)) rfl) ⟨by simp [ElemD.cmp, lex, h1, h2], rfl⟩
  · first | refine g_seq (g_cond_t rfl (by simpa using h1) ?_) | refine g_cond_t rfl (by simpa using h1) ?_
    repeat (first | refine g_endt ?_ | refine g_end ?_ | refine g_then ?_ | refine g_in_normal ?_ | refine g_then_ret ?_ | refine g_in_ret ?_ | refine g_then_exit ?_ | refine g_in_exit rfl ?_ | refine g_in_exit_ne (by decide) ?_ | refine g_seq ?_ | refine g_region ?_ | refine g_block ?_ | refine g_ret ?_ | refine g_return_n ?_ | refine g_exit ?_ | refine g_skip ?_)
    refine o_move ?_
    refine o_assign ?_
    first | refine g_endt ?_ | refine g_end ?_
    repeat (first | refine g_endt ?_ | refine g_end ?_ | refine g_then ?_ | refine g_in_normal ?_ | refine g_then_ret ?_ | refine g_in_ret ?_ | refine g_then_exit ?_ | refine g_in_exit rfl ?_ | refine g_in_exit_ne (by decide) ?_ | refine g_seq ?_ | refine g_region ?_ | refine g_block ?_ | refine g_ret ?_ | refine g_return_n ?_ | refine g_exit ?_ | refine g_skip ?_)
    exact ret1 rfl (resT (v := .int .i64 (a.id.cmp b.id)) rfl) ⟨by simp [ElemD.cmp, lex, h1], rfl⟩
end Go.Proofs.YtonaccfoelgpnaaGreat
/- Members of an ordered set. -/
namespace Go.Proofs.YtonaccfoelgpnaaGreat
open Go Go.Sl

def ElemD.enc (p : ElemD) : List Value := p.val.cells.toList
def ElemD.enc' (p : ElemD) : List Value := [p.val]
instance : EncLen ElemD.enc 12 := ⟨fun _ => rfl, fun e u h => by simp [ElemD.enc, ElemD.val, Value.cells] at h; rcases h with h | h | h | h | h | h | h | h | h | h | h | h <;> subst h <;> rfl⟩
theorem ElemD.lin : LinCmp ElemD.cmp := linElem
theorem ElemD.cmp_spec (a b : ElemD) : Ctr Tryz.prog 120 [a.val, b.val] [] (fun v M => v = .int .i64 (a.cmp b) ∧ M = []) := CompareElem_spec a b
end Go.Proofs.YtonaccfoelgpnaaGreat
/- An ordered set's functions, for one type of members: find, own. -/
namespace Go.Proofs.YtonaccfoelgpnaaGreat
open Go Go.Sl
attribute [local irreducible] Code.wpIn roundPost bodyPostM runL Ret Meets Begin

abbrev SetAES (p : Nat) (ys : List ElemD) : SProp := SetP 134 58 ElemD.enc 12 p ys
section
variable {w0 : World} {A : SProp} {L M : List SProp} {Φ : World → Prop}
theorem openES (p : Nat) (ys : List ElemD) [tk : Take1 L (SetAES p ys) M] (h : ∀ S c b, G w0 A (cellsB p #[.slice S ys.length c, .bool b] 134 :: row 58 ElemD.enc 12 b S c ys :: M) Φ) : G w0 A L Φ := SetP.open h
theorem shutES (p : Nat) (ys : List ElemD) (S : Option Addr) (c : Nat) (b : Bool) {len : Nat} (hl : ys.length = len) [tk : Take L [cellsB p #[.slice S len c, .bool b] 134, row 58 ElemD.enc 12 b S c ys] M] (h : G w0 A (SetAES p ys :: M) Φ) : G w0 A L Φ := SetP.shut (S := S) (c := c) (b := b) hl h
theorem shutFES (p : Nat) (ys : List ElemD) (S : Option Addr) (c : Nat) {len : Nat} (hl : ys.length = len) [tk : Take L [cellsB p #[.slice S len c, .bool false] 134, osl 58 ElemD.enc 12 S c ys] M] (h : G w0 A (SetAES p ys :: M) Φ) : G w0 A L Φ := SetP.shut (S := S) (c := c) (b := false) hl (tk := tk) h
theorem shutTES (p : Nat) (ys : List ElemD) (S : Option Addr) (c : Nat) {len : Nat} (hl : ys.length = len) [tk : Take L [cellsB p #[.slice S len c, .bool true] 134, psl ElemD.enc 12 S ys] M] (h : G w0 A (SetAES p ys :: M) Φ) : G w0 A L Φ := SetP.shut (S := S) (c := c) (b := true) hl (tk := tk) h
end
theorem findES_spec (p : Nat) (ys : List ElemD) (x : ElemD) (hs : Srt ElemD.cmp ys) (hl : ys.length ≤ 1000000000) : Ctr Tryz.prog 90 [.pointer (some ⟨p, 0, none⟩), x.val] [SetAES p ys]
    (fun v M => ∃ (k : Nat) (there : Bool), v = .tuple #[.int .i64 (k : Int), .bool there] ∧ M = [SetAES p ys] ∧ FindR ElemD.cmp ys x k there) := by
  refine spec_of Tryz.func90 rfl Tryz.ntmps90 rfl fun w0 F => ?_
  repeat (first | refine g_endt ?_ | refine g_end ?_ | refine g_then ?_ | refine g_in_normal ?_ | refine g_then_ret ?_ | refine g_in_ret ?_ | refine g_then_exit ?_ | refine g_in_exit rfl ?_ | refine g_in_exit_ne (by decide) ?_ | refine g_seq ?_ | refine g_region ?_ | refine g_block ?_ | refine g_ret ?_ | refine g_return_n ?_ | refine g_exit ?_ | refine g_skip ?_)
  refine openES p ys fun S c b => ?_
  refine o_boxc x.val.cells rfl rfl fun q => ?_
  refine o_assign ?_
  refine o_assign ?_
  first | refine g_endt ?_ | refine g_end ?_
  repeat (first | refine g_endt ?_ | refine g_end ?_ | refine g_then ?_ | refine g_in_normal ?_ | refine g_then_ret ?_ | refine g_in_ret ?_ | refine g_then_exit ?_ | refine g_in_exit rfl ?_ | refine g_in_exit_ne (by decide) ?_ | refine g_seq ?_ | refine g_region ?_ | refine g_block ?_ | refine g_ret ?_ | refine g_return_n ?_ | refine g_exit ?_ | refine g_skip ?_)
  refine g_draw [] [0,1,2,3,4,5,6] [cellsB p #[.slice S ys.length c, .bool b] 134] mixed rfl ?_
  refine ob_q rfl rfl ⟨_, fun X Q h => o_move (g_end (h _ _ ⟨rfl, rfl⟩)), ?_⟩
  refine ob_q rfl rfl ⟨_, fun X Q h => o_nil rfl (g_end (h _ _ ⟨rfl, rfl⟩)), ?_⟩
  refine ob_q rfl rfl ⟨_, fun X Q h => o_field rfl (g_end (h _ _ ⟨rfl, rfl⟩)), ?_⟩
  refine ob_q rfl rfl ⟨_, fun X Q h => o_load1 rfl rfl (g_end (h _ _ ⟨rfl, rfl⟩)), ?_⟩
  refine ob_q rfl rfl ⟨_, fun X Q h => o_len rfl rfl (g_end (h _ _ ⟨rfl, rfl⟩)), ?_⟩
  refine ob_q rfl rfl ⟨_, fun X Q h => o_assign (g_end (h _ _ ⟨rfl, rfl⟩)), ?_⟩
  refine ob_q rfl rfl ⟨_, fun X Q h => o_assign (g_end (h _ _ ⟨rfl, rfl⟩)), ?_⟩
  refine ob_nil ?_
  repeat (first | refine g_endt ?_ | refine g_end ?_ | refine g_then ?_ | refine g_in_normal ?_ | refine g_then_ret ?_ | refine g_in_ret ?_ | refine g_then_exit ?_ | refine g_in_exit rfl ?_ | refine g_in_exit_ne (by decide) ?_ | refine g_seq ?_ | refine g_region ?_ | refine g_block ?_ | refine g_ret ?_ | refine g_return_n ?_ | refine g_exit ?_ | refine g_skip ?_)
  refine g_loop (σ := {s : Nat × Nat // s.1 ≤ s.2 ∧ s.2 ≤ ys.length ∧ (∀ (j : Nat) (y : ElemD), j < s.1 → ys[j]? = some y → ElemD.cmp y x < 0) ∧ ∀ (j : Nat) (y : ElemD), s.2 ≤ j → ys[j]? = some y → 0 < ElemD.cmp y x})
    (S := fun s => [(0, .pointer (some ⟨p, 0, none⟩)), (3, .pointer (some ⟨q, 0, none⟩)), (6, .int .i64 (s.1.1 : Int)), (7, .int .i64 (s.1.2 : Int))])
    (H := fun _ => [cellsB p #[.slice S ys.length c, .bool b] 134, row 58 ElemD.enc 12 b S c ys, cellsB q x.val.cells 58]) (μ := fun s => s.1.2 - s.1.1)
    (s0 := ⟨(0, ys.length), Nat.zero_le _, Nat.le_refl _, fun j y h => absurd h (Nat.not_lt_zero j), fun j y h e => by rw [List.getElem?_eq_none h] at e; cases e⟩) (Sat.mem ⟨rfl, rfl, rfl, rfl, trivial⟩) ?_
  rintro ⟨⟨lo, hi⟩, h1, h2, h3, h4⟩ ρ'
  dsimp only at h1 h2 h3 h4 ⊢
  repeat (first | refine g_endt ?_ | refine g_end ?_ | refine g_then ?_ | refine g_in_normal ?_ | refine g_then_ret ?_ | refine g_in_ret ?_ | refine g_then_exit ?_ | refine g_in_exit rfl ?_ | refine g_in_exit_ne (by decide) ?_ | refine g_seq ?_ | refine g_region ?_ | refine g_block ?_ | refine g_ret ?_ | refine g_return_n ?_ | refine g_exit ?_ | refine g_skip ?_)
  refine o_move ?_
  refine o_move ?_
  refine o_lss rfl rfl ?_
  first | refine g_endt ?_ | refine g_end ?_
  by_cases h : lo < hi
  · first | refine g_seq (g_cond_t rfl (by simpa using h) ?_) | refine g_cond_t rfl (by simpa using h) ?_
    repeat (first | refine g_endt ?_ | refine g_end ?_ | refine g_then ?_ | refine g_in_normal ?_ | refine g_then_ret ?_ | refine g_in_ret ?_ | refine g_then_exit ?_ | refine g_in_exit rfl ?_ | refine g_in_exit_ne (by decide) ?_ | refine g_seq ?_ | refine g_region ?_ | refine g_block ?_ | refine g_ret ?_ | refine g_return_n ?_ | refine g_exit ?_ | refine g_skip ?_)
    refine o_move ?_
    refine o_move ?_
    refine o_move ?_
    refine o_sub (c := ((hi - lo : Nat) : Int)) rfl rfl (by omega) (by omega) (by omega) ?_
    refine o_quo (c := (((hi - lo) / 2 : Nat) : Int)) rfl rfl (by decide) (by rw [Int.tdiv_eq_ediv_of_nonneg (by omega)]; omega) (by omega) (by omega) ?_
    refine o_add (c := ((lo + (hi - lo) / 2 : Nat) : Int)) rfl rfl (by omega) (by omega) (by omega) ?_
    generalize hmid : lo + (hi - lo) / 2 = mid
    have hm1 : lo ≤ mid := by omega
    have hm2 : mid < hi := by omega
    have hm3 : mid < ys.length := by omega
    obtain ⟨y, hy⟩ : ∃ y, ys[mid]? = some y := ⟨_, List.getElem?_eq_getElem hm3⟩
    refine o_assign ?_
    refine g_endt ?_
    repeat (first | refine g_endt ?_ | refine g_end ?_ | refine g_then ?_ | refine g_in_normal ?_ | refine g_then_ret ?_ | refine g_in_ret ?_ | refine g_then_exit ?_ | refine g_in_exit rfl ?_ | refine g_in_exit_ne (by decide) ?_ | refine g_seq ?_ | refine g_region ?_ | refine g_block ?_ | refine g_ret ?_ | refine g_return_n ?_ | refine g_exit ?_ | refine g_skip ?_)
    refine g_draw [] [0,1,2,3,4,5,6,7,8,9,10] [cellsB p #[.slice S ys.length c, .bool b] 134, row 58 ElemD.enc 12 b S c ys, cellsB q x.val.cells 58] mixed rfl ?_
    refine ob_q rfl rfl ⟨_, fun X Q h => o_move (g_end (h _ _ ⟨rfl, rfl⟩)), ?_⟩
    refine ob_q rfl rfl ⟨_, fun X Q h => o_nil rfl (g_end (h _ _ ⟨rfl, rfl⟩)), ?_⟩
    refine ob_q rfl rfl ⟨_, fun X Q h => o_field rfl (g_end (h _ _ ⟨rfl, rfl⟩)), ?_⟩
    refine ob_q rfl rfl ⟨_, fun X Q h => o_load1 (v := .slice S ys.length c) rfl rfl (g_end (h _ _ ⟨rfl, rfl⟩)), ?_⟩
    refine ob_q rfl rfl ⟨_, fun X Q h => o_move (g_end (h _ _ ⟨rfl, rfl⟩)), ?_⟩
    refine ob_q rfl rfl ⟨_, fun X Q h => o_indexR (ys := ys) (i := mid) rfl rfl rfl hm3 rfl rfl (g_end (h _ _ ⟨rfl, rfl⟩)), ?_⟩
    refine ob_q rfl rfl ⟨_, fun X Q h => o_loadE (ys := ys) rfl rfl hy (g_end (h _ _ ⟨rfl, rfl⟩)), ?_⟩
    refine ob_q rfl rfl ⟨_, fun X Q h => o_iface (u := y.val) rfl (fun w => by kernel_rfl) (g_end (h _ _ ⟨rfl, rfl⟩)), ?_⟩
    refine ob_q rfl rfl ⟨_, fun X Q h => o_loadN (v := x.val) rfl rfl rfl (g_end (h _ _ ⟨rfl, rfl⟩)), ?_⟩
    refine ob_q rfl rfl ⟨_, fun X Q h => o_invoke (ElemD.cmp_spec y x) rfl rfl (fun w => by kernel_rfl) <| by rintro _ _ ⟨rfl, rfl⟩; exact (g_end (h _ _ ⟨rfl, rfl⟩)), ?_⟩
    refine ob_q rfl rfl ⟨_, fun X Q h => o_assign (g_end (h _ _ ⟨rfl, rfl⟩)), ?_⟩
    refine ob_nil ?_
    repeat (first | refine g_endt ?_ | refine g_end ?_ | refine g_then ?_ | refine g_in_normal ?_ | refine g_then_ret ?_ | refine g_in_ret ?_ | refine g_then_exit ?_ | refine g_in_exit rfl ?_ | refine g_in_exit_ne (by decide) ?_ | refine g_seq ?_ | refine g_region ?_ | refine g_block ?_ | refine g_ret ?_ | refine g_return_n ?_ | refine g_exit ?_ | refine g_skip ?_)
    refine o_move ?_
    refine o_eql rfl rfl ?_
    first | refine g_endt ?_ | refine g_end ?_
    by_cases hc : ElemD.cmp y x = 0
    · first | refine g_seq (g_cond_t rfl (by simpa using hc) ?_) | refine g_cond_t rfl (by simpa using hc) ?_
      repeat (first | refine g_endt ?_ | refine g_end ?_ | refine g_then ?_ | refine g_in_normal ?_ | refine g_then_ret ?_ | refine g_in_ret ?_ | refine g_then_exit ?_ | refine g_in_exit rfl ?_ | refine g_in_exit_ne (by decide) ?_ | refine g_seq ?_ | refine g_region ?_ | refine g_block ?_ | refine g_ret ?_ | refine g_return_n ?_ | refine g_exit ?_ | refine g_skip ?_)
      refine o_move ?_
      refine o_assign ?_
      refine o_assign ?_
      first | refine g_endt ?_ | refine g_end ?_
      refine shutES p ys S c b rfl ?_
      repeat (first | refine g_endt ?_ | refine g_end ?_ | refine g_then ?_ | refine g_in_normal ?_ | refine g_then_ret ?_ | refine g_in_ret ?_ | refine g_then_exit ?_ | refine g_in_exit rfl ?_ | refine g_in_exit_ne (by decide) ?_ | refine g_seq ?_ | refine g_region ?_ | refine g_block ?_ | refine g_ret ?_ | refine g_return_n ?_ | refine g_exit ?_ | refine g_skip ?_)
      exact ret2 rfl (resT rfl) (resT rfl) ⟨mid, true, rfl, rfl, by omega, fun _ => ⟨y, hy, hc⟩, fun e => by cases e⟩
    · first | refine g_seq (g_cond_f rfl (by simpa using hc) ?_) | refine g_cond_f rfl (by simpa using hc) ?_
      repeat (first | refine g_endt ?_ | refine g_end ?_ | refine g_then ?_ | refine g_in_normal ?_ | refine g_then_ret ?_ | refine g_in_ret ?_ | refine g_then_exit ?_ | refine g_in_exit rfl ?_ | refine g_in_exit_ne (by decide) ?_ | refine g_seq ?_ | refine g_region ?_ | refine g_block ?_ | refine g_ret ?_ | refine g_return_n ?_ | refine g_exit ?_ | refine g_skip ?_)
      refine o_move ?_
      refine o_lss rfl rfl ?_
      first | refine g_endt ?_ | refine g_end ?_
      by_cases hn : ElemD.cmp y x < 0
      · first | refine g_seq (g_cond_t rfl (by simpa using hn) ?_) | refine g_cond_t rfl (by simpa using hn) ?_
        repeat (first | refine g_endt ?_ | refine g_end ?_ | refine g_then ?_ | refine g_in_normal ?_ | refine g_then_ret ?_ | refine g_in_ret ?_ | refine g_then_exit ?_ | refine g_in_exit rfl ?_ | refine g_in_exit_ne (by decide) ?_ | refine g_seq ?_ | refine g_region ?_ | refine g_block ?_ | refine g_ret ?_ | refine g_return_n ?_ | refine g_exit ?_ | refine g_skip ?_)
        refine o_move ?_
        refine o_add (c := ((mid + 1 : Nat) : Int)) rfl rfl (by omega) (by omega) (by omega) ?_
        refine o_assign ?_
        first | refine g_endt ?_ | refine g_end ?_
        repeat (first | refine g_endt ?_ | refine g_end ?_ | refine g_then ?_ | refine g_in_normal ?_ | refine g_then_ret ?_ | refine g_in_ret ?_ | refine g_then_exit ?_ | refine g_in_exit rfl ?_ | refine g_in_exit_ne (by decide) ?_ | refine g_seq ?_ | refine g_region ?_ | refine g_block ?_ | refine g_ret ?_ | refine g_return_n ?_ | refine g_exit ?_ | refine g_skip ?_)
        refine g_meets ⟨(mid + 1, hi), by show mid + 1 ≤ hi; omega, h2, fun j y' hj hy' => ?_, h4⟩ (by show hi - (mid + 1) < hi - lo; omega) (Sat.mem ⟨rfl, rfl, rfl, rfl, trivial⟩)
        by_cases e : j = mid
        · subst e; rw [hy] at hy'; cases hy'; exact hn
        · exact ElemD.lin.trans _ _ _ (hs j mid y' y (by dsimp only at hj; omega) hy' hy) hn
      · first | refine g_seq (g_cond_f rfl (by simpa using hn) ?_) | refine g_cond_f rfl (by simpa using hn) ?_
        repeat (first | refine g_endt ?_ | refine g_end ?_ | refine g_then ?_ | refine g_in_normal ?_ | refine g_then_ret ?_ | refine g_in_ret ?_ | refine g_then_exit ?_ | refine g_in_exit rfl ?_ | refine g_in_exit_ne (by decide) ?_ | refine g_seq ?_ | refine g_region ?_ | refine g_block ?_ | refine g_ret ?_ | refine g_return_n ?_ | refine g_exit ?_ | refine g_skip ?_)
        refine o_move ?_
        refine o_assign ?_
        first | refine g_endt ?_ | refine g_end ?_
        repeat (first | refine g_endt ?_ | refine g_end ?_ | refine g_then ?_ | refine g_in_normal ?_ | refine g_then_ret ?_ | refine g_in_ret ?_ | refine g_then_exit ?_ | refine g_in_exit rfl ?_ | refine g_in_exit_ne (by decide) ?_ | refine g_seq ?_ | refine g_region ?_ | refine g_block ?_ | refine g_ret ?_ | refine g_return_n ?_ | refine g_exit ?_ | refine g_skip ?_)
        refine g_meets ⟨(lo, mid), hm1, by show mid ≤ ys.length; omega, h3, fun j y' hj hy' => ?_⟩ (by show mid - lo < hi - lo; omega) (Sat.mem ⟨rfl, rfl, rfl, rfl, trivial⟩)
        by_cases e : j = mid
        · subst e; rw [hy] at hy'; cases hy'; omega
        · have h5 := hs mid j y y' (by dsimp only at hj; omega) hy hy'
          have h6 := ElemD.lin.swap x y
          have h7 := ElemD.lin.trans x y y' (by omega) h5
          have h8 := ElemD.lin.swap x y'
          omega
  · first | refine g_seq (g_cond_f rfl (by simpa using h) ?_) | refine g_cond_f rfl (by simpa using h) ?_
    have e : lo = hi := by omega
    subst e
    repeat (first | refine g_endt ?_ | refine g_end ?_ | refine g_then ?_ | refine g_in_normal ?_ | refine g_then_ret ?_ | refine g_in_ret ?_ | refine g_then_exit ?_ | refine g_in_exit rfl ?_ | refine g_in_exit_ne (by decide) ?_ | refine g_seq ?_ | refine g_region ?_ | refine g_block ?_ | refine g_ret ?_ | refine g_return_n ?_ | refine g_exit ?_ | refine g_skip ?_)
    refine o_move ?_
    refine o_assign ?_
    refine o_assign ?_
    first | refine g_endt ?_ | refine g_end ?_
    refine shutES p ys S c b rfl ?_
    repeat (first | refine g_endt ?_ | refine g_end ?_ | refine g_then ?_ | refine g_in_normal ?_ | refine g_then_ret ?_ | refine g_in_ret ?_ | refine g_then_exit ?_ | refine g_in_exit rfl ?_ | refine g_in_exit_ne (by decide) ?_ | refine g_seq ?_ | refine g_region ?_ | refine g_block ?_ | refine g_ret ?_ | refine g_return_n ?_ | refine g_exit ?_ | refine g_skip ?_)
    exact ret2 rfl (resT rfl) (resT rfl) ⟨lo, false, rfl, rfl, h2, fun e => (by cases e), fun _ => ⟨h3, h4⟩⟩
end Go.Proofs.YtonaccfoelgpnaaGreat
/- An ordered set's functions, for one type of members: own, Put. -/
namespace Go.Proofs.YtonaccfoelgpnaaGreat
open Go Go.Sl
attribute [local irreducible] Code.wpIn roundPost bodyPostM runL Ret Meets Begin

theorem ownES_spec (p : Nat) (ys : List ElemD) (hl : ys.length ≤ 1000000000) : Ctr Tryz.prog 91 [.pointer (some ⟨p, 0, none⟩)] [SetAES p ys]
    (fun _ M => ∃ (S : Option Addr) (c : Nat), M = [cellsB p #[.slice S ys.length c, .bool false] 134, osl 58 ElemD.enc 12 S c ys]) := by
  refine spec_of Tryz.func91 rfl Tryz.ntmps91 rfl fun w0 F => ?_
  repeat (first | refine g_endt ?_ | refine g_end ?_ | refine g_then ?_ | refine g_in_normal ?_ | refine g_then_ret ?_ | refine g_in_ret ?_ | refine g_then_exit ?_ | refine g_in_exit rfl ?_ | refine g_in_exit_ne (by decide) ?_ | refine g_seq ?_ | refine g_region ?_ | refine g_block ?_ | refine g_ret ?_ | refine g_return_n ?_ | refine g_exit ?_ | refine g_skip ?_)
  refine openES p ys fun S c b => ?_
  refine o_move ?_
  refine o_nil rfl ?_
  refine o_field rfl ?_
  refine o_load1 (v := .bool b) rfl rfl ?_
  refine g_endt ?_
  cases b
  · first | refine g_seq (g_cond_f rfl (rfl) ?_) | refine g_cond_f rfl (rfl) ?_
    change G _ _ [cellsB p #[.slice S ys.length c, .bool false] 134, osl 58 ElemD.enc 12 S c ys] _
    repeat (first | refine g_endt ?_ | refine g_end ?_ | refine g_then ?_ | refine g_in_normal ?_ | refine g_then_ret ?_ | refine g_in_ret ?_ | refine g_then_exit ?_ | refine g_in_exit rfl ?_ | refine g_in_exit_ne (by decide) ?_ | refine g_seq ?_ | refine g_region ?_ | refine g_block ?_ | refine g_ret ?_ | refine g_return_n ?_ | refine g_exit ?_ | refine g_skip ?_)
    exact ret0 rfl ⟨S, c, rfl⟩
  · first | refine g_seq (g_cond_t rfl (rfl) ?_) | refine g_cond_t rfl (rfl) ?_
    change G _ _ [cellsB p #[.slice S ys.length c, .bool true] 134, psl ElemD.enc 12 S ys] _
    repeat (first | refine g_endt ?_ | refine g_end ?_ | refine g_then ?_ | refine g_in_normal ?_ | refine g_then_ret ?_ | refine g_in_ret ?_ | refine g_then_exit ?_ | refine g_in_exit rfl ?_ | refine g_in_exit_ne (by decide) ?_ | refine g_seq ?_ | refine g_region ?_ | refine g_block ?_ | refine g_ret ?_ | refine g_return_n ?_ | refine g_exit ?_ | refine g_skip ?_)
    refine g_draw [7, 12, 15] [0,1,2,3,4,5,6,8,9,10,11,7,12,13,14,15] [cellsB p #[.slice S ys.length c, .bool true] 134, psl ElemD.enc 12 S ys] mixed rfl ?_
    refine ob_q rfl rfl ⟨_, fun X Q h => o_move (g_end (h _ _ ⟨rfl, rfl⟩)), ?_⟩
    refine ob_q rfl rfl ⟨_, fun X Q h => o_move (g_end (h _ _ ⟨rfl, rfl⟩)), ?_⟩
    refine ob_q rfl rfl ⟨_, fun X Q h => o_nil rfl (g_end (h _ _ ⟨rfl, rfl⟩)), ?_⟩
    refine ob_q rfl rfl ⟨_, fun X Q h => o_field rfl (g_end (h _ _ ⟨rfl, rfl⟩)), ?_⟩
    refine ob_q rfl rfl ⟨_, fun X Q h => o_load1 (v := .slice S ys.length c) rfl rfl (g_end (h _ _ ⟨rfl, rfl⟩)), ?_⟩
    refine ob_q rfl rfl ⟨_, fun X Q h => o_len rfl rfl (g_end (h _ _ ⟨rfl, rfl⟩)), ?_⟩
    refine ob_q rfl rfl ⟨_, fun X Q h => o_add (c := ((ys.length + 1 : Nat) : Int)) rfl rfl (by omega) (by omega) (by omega) (g_end (h _ _ ⟨rfl, rfl⟩)), ?_⟩
    refine ob_q rfl rfl ⟨_, fun X Q h => o_move (g_end (h _ _ ⟨rfl, rfl⟩)), ?_⟩
    refine ob_q rfl rfl ⟨_, fun X Q h => o_nil rfl (g_end (h _ _ ⟨rfl, rfl⟩)), ?_⟩
    refine ob_q rfl rfl ⟨_, fun X Q h => o_field rfl (g_end (h _ _ ⟨rfl, rfl⟩)), ?_⟩
    refine ob_q rfl rfl ⟨_, fun X Q h => o_load1 (v := .slice S ys.length c) rfl rfl (g_end (h _ _ ⟨rfl, rfl⟩)), ?_⟩
    refine ob_l rfl rfl fun Qz hz => o_make0 (α := ElemD) (enc := ElemD.enc) rfl rfl rfl (by omega) (by simp [maxLen]; omega) fun T => g_end (hz _ _ ⟨_, ob_fin, ?_⟩)
    clear hz Qz
    refine ob_l rfl rfl fun Qz hz => o_append0 (ys := ys) rfl rfl rfl rfl rfl (by simp [maxLen]; omega) (by omega) fun U d => g_end (hz _ _ ⟨_, ob_fin, ?_⟩)
    clear hz Qz
    refine ob_q rfl rfl ⟨_, fun X Q h => o_nil rfl (g_end (h _ _ ⟨rfl, rfl⟩)), ?_⟩
    refine ob_q rfl rfl ⟨_, fun X Q h => o_field rfl (g_end (h _ _ ⟨rfl, rfl⟩)), ?_⟩
    refine ob_s ([]) rfl rfl rfl fun Qz hz => o_store (v := .slice U ys.length d) rfl rfl rfl rfl rfl <| g_end (hz _ _ ⟨_, ob_fin, ?_⟩)
    clear hz Qz
    refine ob_nil ?_
    repeat (first | refine g_endt ?_ | refine g_end ?_ | refine g_then ?_ | refine g_in_normal ?_ | refine g_then_ret ?_ | refine g_in_ret ?_ | refine g_then_exit ?_ | refine g_in_exit rfl ?_ | refine g_in_exit_ne (by decide) ?_ | refine g_seq ?_ | refine g_region ?_ | refine g_block ?_ | refine g_ret ?_ | refine g_return_n ?_ | refine g_exit ?_ | refine g_skip ?_)
    refine o_move ?_
    refine o_nil rfl ?_
    refine o_field rfl ?_
    refine o_store rfl rfl rfl rfl rfl ?_
    first | refine g_endt ?_ | refine g_end ?_
    repeat (first | refine g_endt ?_ | refine g_end ?_ | refine g_then ?_ | refine g_in_normal ?_ | refine g_then_ret ?_ | refine g_in_ret ?_ | refine g_then_exit ?_ | refine g_in_exit rfl ?_ | refine g_in_exit_ne (by decide) ?_ | refine g_seq ?_ | refine g_region ?_ | refine g_block ?_ | refine g_ret ?_ | refine g_return_n ?_ | refine g_exit ?_ | refine g_skip ?_)
    refine G.norm p #[.slice U ys.length d, .bool false] rfl ?_
    exact ret0 rfl ⟨U, d, rfl⟩
end Go.Proofs.YtonaccfoelgpnaaGreat
/- An ordered set's functions, for one type of members: Put. -/
namespace Go.Proofs.YtonaccfoelgpnaaGreat
open Go Go.Sl
attribute [local irreducible] Code.wpIn roundPost bodyPostM runL Ret Meets Begin

theorem take_snocPES {α : Type} (ys : List α) (i : Nat) (y : α) (h : ys[i]? = some y) : ys.take (i + 1) = ys.take i ++ [y] := by rw [List.take_add_one, h]; rfl
theorem gapES (ys : List ElemD) (i : Nat) (w y : ElemD) (hi : i < ys.length) (hy : ys[i]? = some y) : (ys.take (i + 1) ++ w :: ys.drop (i + 1)).set (i + 1) y = ys.take i ++ y :: ys.drop i := by
  have h1 : (ys.take (i + 1)).length = i + 1 := by simp; omega
  have h2 : ys.drop i = y :: ys.drop (i + 1) := by
    rw [List.drop_eq_getElem_cons hi]
    rw [List.getElem?_eq_getElem hi] at hy
    cases hy
    rfl
  rw [List.set_append_right _ _ (by omega), h1, Nat.sub_self, List.set_cons_zero, take_snocPES ys i y hy, h2]
  simp
theorem PutES_spec (p : Nat) (ys : List ElemD) (x : ElemD) (hs : Srt ElemD.cmp ys) (hl : ys.length < 1000000000) : Ctr Tryz.prog 70 [.pointer (some ⟨p, 0, none⟩), x.val] [SetAES p ys]
    (fun v M => ∃ (k : Nat) (there : Bool), v = .bool !there ∧ M = [SetAES p (cond there ys (ys.take k ++ x :: ys.drop k))] ∧ FindR ElemD.cmp ys x k there) := by
  refine spec_of Tryz.func70 rfl Tryz.ntmps70 rfl fun w0 F => ?_
  repeat (first | refine g_endt ?_ | refine g_end ?_ | refine g_then ?_ | refine g_in_normal ?_ | refine g_then_ret ?_ | refine g_in_ret ?_ | refine g_then_exit ?_ | refine g_in_exit rfl ?_ | refine g_in_exit_ne (by decide) ?_ | refine g_seq ?_ | refine g_region ?_ | refine g_block ?_ | refine g_ret ?_ | refine g_return_n ?_ | refine g_exit ?_ | refine g_skip ?_)
  refine o_boxc x.val.cells rfl rfl fun q => ?_
  refine o_assign ?_
  first | refine g_endt ?_ | refine g_end ?_
  repeat (first | refine g_endt ?_ | refine g_end ?_ | refine g_then ?_ | refine g_in_normal ?_ | refine g_then_ret ?_ | refine g_in_ret ?_ | refine g_then_exit ?_ | refine g_in_exit rfl ?_ | refine g_in_exit_ne (by decide) ?_ | refine g_seq ?_ | refine g_region ?_ | refine g_block ?_ | refine g_ret ?_ | refine g_return_n ?_ | refine g_exit ?_ | refine g_skip ?_)
  refine o_move ?_
  refine o_peql rfl ?_
  first | refine g_endt ?_ | refine g_end ?_
  first | refine g_seq (g_cond_f rfl (rfl) ?_) | refine g_cond_f rfl (rfl) ?_
  repeat (first | refine g_endt ?_ | refine g_end ?_ | refine g_then ?_ | refine g_in_normal ?_ | refine g_then_ret ?_ | refine g_in_ret ?_ | refine g_then_exit ?_ | refine g_in_exit rfl ?_ | refine g_in_exit_ne (by decide) ?_ | refine g_seq ?_ | refine g_region ?_ | refine g_block ?_ | refine g_ret ?_ | refine g_return_n ?_ | refine g_exit ?_ | refine g_skip ?_)
  refine o_move ?_
  refine o_loadN (v := x.val) rfl rfl rfl ?_
  refine o_call (findES_spec p ys x hs (by omega)) rfl rfl ?_
  rintro _ _ ⟨k, there, rfl, rfl, hk⟩
  refine o_move ?_
  refine o_extract rfl rfl ?_
  refine o_extract rfl rfl ?_
  refine o_assign ?_
  refine o_assign ?_
  first | refine g_endt ?_ | refine g_end ?_
  repeat (first | refine g_endt ?_ | refine g_end ?_ | refine g_then ?_ | refine g_in_normal ?_ | refine g_then_ret ?_ | refine g_in_ret ?_ | refine g_then_exit ?_ | refine g_in_exit rfl ?_ | refine g_in_exit_ne (by decide) ?_ | refine g_seq ?_ | refine g_region ?_ | refine g_block ?_ | refine g_ret ?_ | refine g_return_n ?_ | refine g_exit ?_ | refine g_skip ?_)
  refine o_move ?_
  refine g_endt ?_
  cases there
  case true =>
    first | refine g_seq (g_cond_t rfl (rfl) ?_) | refine g_cond_t rfl (rfl) ?_
    repeat (first | refine g_endt ?_ | refine g_end ?_ | refine g_then ?_ | refine g_in_normal ?_ | refine g_then_ret ?_ | refine g_in_ret ?_ | refine g_then_exit ?_ | refine g_in_exit rfl ?_ | refine g_in_exit_ne (by decide) ?_ | refine g_seq ?_ | refine g_region ?_ | refine g_block ?_ | refine g_ret ?_ | refine g_return_n ?_ | refine g_exit ?_ | refine g_skip ?_)
    refine o_assign ?_
    first | refine g_endt ?_ | refine g_end ?_
    repeat (first | refine g_endt ?_ | refine g_end ?_ | refine g_then ?_ | refine g_in_normal ?_ | refine g_then_ret ?_ | refine g_in_ret ?_ | refine g_then_exit ?_ | refine g_in_exit rfl ?_ | refine g_in_exit_ne (by decide) ?_ | refine g_seq ?_ | refine g_region ?_ | refine g_block ?_ | refine g_ret ?_ | refine g_return_n ?_ | refine g_exit ?_ | refine g_skip ?_)
    exact ret1 (K := [SetAES p ys]) rfl (resT rfl) ⟨k, true, rfl, rfl, hk⟩
  first | refine g_seq (g_cond_f rfl (rfl) ?_) | refine g_cond_f rfl (rfl) ?_
  repeat (first | refine g_endt ?_ | refine g_end ?_ | refine g_then ?_ | refine g_in_normal ?_ | refine g_then_ret ?_ | refine g_in_ret ?_ | refine g_then_exit ?_ | refine g_in_exit rfl ?_ | refine g_in_exit_ne (by decide) ?_ | refine g_seq ?_ | refine g_region ?_ | refine g_block ?_ | refine g_ret ?_ | refine g_return_n ?_ | refine g_exit ?_ | refine g_skip ?_)
  refine o_move ?_
  refine o_call (ownES_spec p ys (by omega)) rfl rfl ?_
  rintro _ _ ⟨S, c, rfl⟩
  refine g_endt ?_
  repeat (first | refine g_endt ?_ | refine g_end ?_ | refine g_then ?_ | refine g_in_normal ?_ | refine g_then_ret ?_ | refine g_in_ret ?_ | refine g_then_exit ?_ | refine g_in_exit rfl ?_ | refine g_in_exit_ne (by decide) ?_ | refine g_seq ?_ | refine g_region ?_ | refine g_block ?_ | refine g_ret ?_ | refine g_return_n ?_ | refine g_exit ?_ | refine g_skip ?_)
  refine g_draw [6, 7, 10] [0,1,2,3,4,5,6,7,8,9,10] [cellsB p #[.slice S ys.length c, .bool false] 134, cellsB q x.val.cells 58] mixed rfl ?_
  refine ob_q rfl rfl ⟨_, fun X Q h => o_move (g_end (h _ _ ⟨rfl, rfl⟩)), ?_⟩
  refine ob_q rfl rfl ⟨_, fun X Q h => o_move (g_end (h _ _ ⟨rfl, rfl⟩)), ?_⟩
  refine ob_q rfl rfl ⟨_, fun X Q h => o_nil rfl (g_end (h _ _ ⟨rfl, rfl⟩)), ?_⟩
  refine ob_q rfl rfl ⟨_, fun X Q h => o_field rfl (g_end (h _ _ ⟨rfl, rfl⟩)), ?_⟩
  refine ob_q rfl rfl ⟨_, fun X Q h => o_load1 (v := .slice S ys.length c) rfl rfl (g_end (h _ _ ⟨rfl, rfl⟩)), ?_⟩
  refine ob_q rfl rfl ⟨_, fun X Q h => o_loadN (v := x.val) rfl rfl rfl (g_end (h _ _ ⟨rfl, rfl⟩)), ?_⟩
  refine ob_l rfl rfl fun Qz hz => o_slice_lit (e := 58) x.val.cells (fun w => by kernel_rfl) fun g => G.lit_slice (enc := ElemD.enc) (sz := 12) [x] (by simp [ElemD.enc]) (by simp [maxLen]) <| G.freeze_slice <| g_end (hz _ _ ⟨_, ob_fin, ?_⟩)
  clear hz Qz
  refine ob_l rfl rfl fun Qz hz => o_append (xs := ys) (ys := [x]) rfl rfl rfl rfl rfl (fun _ => .inr trivial) (by simp [maxLen]; omega) (by simp; omega) fun U d => g_end (hz _ _ ⟨_, ob_fin, ?_⟩)
  clear hz Qz
  refine ob_q rfl rfl ⟨_, fun X Q h => o_nil rfl (g_end (h _ _ ⟨rfl, rfl⟩)), ?_⟩
  refine ob_q rfl rfl ⟨_, fun X Q h => o_field rfl (g_end (h _ _ ⟨rfl, rfl⟩)), ?_⟩
  refine ob_s ([]) rfl rfl rfl fun Qz hz => o_store (v := .slice U (ys.length + 1) d) rfl rfl rfl rfl rfl <| g_end (hz _ _ ⟨_, ob_fin, ?_⟩)
  clear hz Qz
  refine ob_nil ?_
  refine G.norm p #[.slice U (ys.length + 1) d, .bool false] rfl ?_
  repeat (first | refine g_endt ?_ | refine g_end ?_ | refine g_then ?_ | refine g_in_normal ?_ | refine g_then_ret ?_ | refine g_in_ret ?_ | refine g_then_exit ?_ | refine g_in_exit rfl ?_ | refine g_in_exit_ne (by decide) ?_ | refine g_seq ?_ | refine g_region ?_ | refine g_block ?_ | refine g_ret ?_ | refine g_return_n ?_ | refine g_exit ?_ | refine g_skip ?_)
  refine o_move ?_
  refine o_nil rfl ?_
  refine o_field rfl ?_
  refine o_load1 (v := .slice U (ys.length + 1) d) rfl rfl ?_
  refine o_len rfl rfl ?_
  refine o_sub (c := ((ys.length : Nat) : Int)) rfl rfl (by omega) (by omega) (by omega) ?_
  refine o_assign ?_
  refine g_endt ?_
  repeat (first | refine g_endt ?_ | refine g_end ?_ | refine g_then ?_ | refine g_in_normal ?_ | refine g_then_ret ?_ | refine g_in_ret ?_ | refine g_then_exit ?_ | refine g_in_exit rfl ?_ | refine g_in_exit_ne (by decide) ?_ | refine g_seq ?_ | refine g_region ?_ | refine g_block ?_ | refine g_ret ?_ | refine g_return_n ?_ | refine g_exit ?_ | refine g_skip ?_)
  have hk1 : k ≤ ys.length := hk.1
  refine g_loop (σ := {s : Nat × ElemD // k ≤ s.1 ∧ s.1 ≤ ys.length})
    (S := fun s => [(0, .pointer (some ⟨p, 0, none⟩)), (3, .pointer (some ⟨q, 0, none⟩)), (5, .int .i64 (k : Int)), (7, .int .i64 (s.1.1 : Int))])
    (H := fun s => [cellsB p #[.slice U (ys.length + 1) d, .bool false] 134, cellsB q x.val.cells 58, osl 58 ElemD.enc 12 U d (ys.take s.1.1 ++ s.1.2 :: ys.drop s.1.1)]) (μ := fun s => s.1.1)
    (s0 := ⟨(ys.length, x), hk1, Nat.le_refl _⟩) (Sat.mem ⟨rfl, rfl, rfl, rfl, trivial⟩) (t := by simp only [List.take_length, List.drop_length]; infer_instance) ?_
  rintro ⟨⟨i, w⟩, h1, h2⟩ ρ'
  dsimp only at h1 h2 ⊢
  have hlen : (ys.take i ++ w :: ys.drop i).length = ys.length + 1 := by simp; omega
  repeat (first | refine g_endt ?_ | refine g_end ?_ | refine g_then ?_ | refine g_in_normal ?_ | refine g_then_ret ?_ | refine g_in_ret ?_ | refine g_then_exit ?_ | refine g_in_exit rfl ?_ | refine g_in_exit_ne (by decide) ?_ | refine g_seq ?_ | refine g_region ?_ | refine g_block ?_ | refine g_ret ?_ | refine g_return_n ?_ | refine g_exit ?_ | refine g_skip ?_)
  refine o_move ?_
  refine o_move ?_
  refine o_gtr rfl rfl ?_
  first | refine g_endt ?_ | refine g_end ?_
  by_cases h : k < i
  · first | refine g_seq (g_cond_t rfl (by simpa using h) ?_) | refine g_cond_t rfl (by simpa using h) ?_
    repeat (first | refine g_endt ?_ | refine g_end ?_ | refine g_then ?_ | refine g_in_normal ?_ | refine g_then_ret ?_ | refine g_in_ret ?_ | refine g_then_exit ?_ | refine g_in_exit rfl ?_ | refine g_in_exit_ne (by decide) ?_ | refine g_seq ?_ | refine g_region ?_ | refine g_block ?_ | refine g_ret ?_ | refine g_return_n ?_ | refine g_exit ?_ | refine g_skip ?_)
    obtain ⟨i, rfl⟩ : ∃ j, i = j + 1 := ⟨i - 1, by omega⟩
    have hi : i < ys.length := by omega
    obtain ⟨y, hy⟩ : ∃ y, ys[i]? = some y := ⟨_, List.getElem?_eq_getElem hi⟩
    have hz : (ys.take (i + 1) ++ w :: ys.drop (i + 1))[i]? = some y := by
      rw [List.getElem?_append_left (by simp; omega), List.getElem?_take, if_pos (by omega), hy]
    refine g_draw [14] [0,1,2,3,4,5,6,7,8,9,10,11,12,13,14] [cellsB p #[.slice U (ys.length + 1) d, .bool false] 134, osl 58 ElemD.enc 12 U d (ys.take (i + 1) ++ w :: ys.drop (i + 1))] mixed rfl ?_
    refine ob_q rfl rfl ⟨_, fun X Q h => o_move (g_end (h _ _ ⟨rfl, rfl⟩)), ?_⟩
    refine ob_q rfl rfl ⟨_, fun X Q h => o_nil rfl (g_end (h _ _ ⟨rfl, rfl⟩)), ?_⟩
    refine ob_q rfl rfl ⟨_, fun X Q h => o_field rfl (g_end (h _ _ ⟨rfl, rfl⟩)), ?_⟩
    refine ob_q rfl rfl ⟨_, fun X Q h => o_load1 (v := .slice U (ys.length + 1) d) rfl rfl (g_end (h _ _ ⟨rfl, rfl⟩)), ?_⟩
    refine ob_q rfl rfl ⟨_, fun X Q h => o_move (g_end (h _ _ ⟨rfl, rfl⟩)), ?_⟩
    refine ob_q rfl rfl ⟨_, fun X Q h => o_move (g_end (h _ _ ⟨rfl, rfl⟩)), ?_⟩
    refine ob_q rfl rfl ⟨_, fun X Q h => o_nil rfl (g_end (h _ _ ⟨rfl, rfl⟩)), ?_⟩
    refine ob_q rfl rfl ⟨_, fun X Q h => o_field rfl (g_end (h _ _ ⟨rfl, rfl⟩)), ?_⟩
    refine ob_q rfl rfl ⟨_, fun X Q h => o_load1 (v := .slice U (ys.length + 1) d) rfl rfl (g_end (h _ _ ⟨rfl, rfl⟩)), ?_⟩
    refine ob_q rfl rfl ⟨_, fun X Q h => o_move (g_end (h _ _ ⟨rfl, rfl⟩)), ?_⟩
    refine ob_q rfl rfl ⟨_, fun X Q h => o_sub (c := ((i : Nat) : Int)) rfl rfl (by omega) (by omega) (by omega) (g_end (h _ _ ⟨rfl, rfl⟩)), ?_⟩
    refine ob_q rfl rfl ⟨_, fun X Q h => o_indexR (i := i) rfl rfl rfl (by omega) hlen rfl (g_end (h _ _ ⟨rfl, rfl⟩)), ?_⟩
    refine ob_q rfl rfl ⟨_, fun X Q h => o_loadE (enc := ElemD.enc) rfl rfl hz (g_end (h _ _ ⟨rfl, rfl⟩)), ?_⟩
    refine ob_q rfl rfl ⟨_, fun X Q h => o_indexR (i := i + 1) rfl rfl rfl (by omega) hlen rfl (g_end (h _ _ ⟨rfl, rfl⟩)), ?_⟩
    refine ob_s ([]) rfl rfl rfl fun Qz hz => o_storeE (e := 58) (c := d) (v := y.val) (z := y) (i := i + 1) (enc := ElemD.enc) (xs := ys.take (i + 1) ++ w :: ys.drop (i + 1)) rfl rfl rfl rfl (by omega) <| g_end (hz _ _ ⟨_, ob_fin, ?_⟩)
    clear hz Qz
    refine ob_nil ?_
    rw [gapES ys i w y hi hy]
    repeat (first | refine g_endt ?_ | refine g_end ?_ | refine g_then ?_ | refine g_in_normal ?_ | refine g_then_ret ?_ | refine g_in_ret ?_ | refine g_then_exit ?_ | refine g_in_exit rfl ?_ | refine g_in_exit_ne (by decide) ?_ | refine g_seq ?_ | refine g_region ?_ | refine g_block ?_ | refine g_ret ?_ | refine g_return_n ?_ | refine g_exit ?_ | refine g_skip ?_)
    refine o_move ?_
    refine o_sub (c := ((i : Nat) : Int)) rfl rfl (by omega) (by omega) (by omega) ?_
    refine o_assign ?_
    refine g_endt ?_
    repeat (first | refine g_endt ?_ | refine g_end ?_ | refine g_then ?_ | refine g_in_normal ?_ | refine g_then_ret ?_ | refine g_in_ret ?_ | refine g_then_exit ?_ | refine g_in_exit rfl ?_ | refine g_in_exit_ne (by decide) ?_ | refine g_seq ?_ | refine g_region ?_ | refine g_block ?_ | refine g_ret ?_ | refine g_return_n ?_ | refine g_exit ?_ | refine g_skip ?_)
    exact g_meets ⟨(i, y), by show k ≤ i; omega, by show i ≤ ys.length; omega⟩ (by show i < i + 1; omega) (Sat.mem ⟨rfl, rfl, rfl, rfl, trivial⟩)
  · first | refine g_seq (g_cond_f rfl (by simpa using h) ?_) | refine g_cond_f rfl (by simpa using h) ?_
    have e : i = k := by omega
    subst e
    repeat (first | refine g_endt ?_ | refine g_end ?_ | refine g_then ?_ | refine g_in_normal ?_ | refine g_then_ret ?_ | refine g_in_ret ?_ | refine g_then_exit ?_ | refine g_in_exit rfl ?_ | refine g_in_exit_ne (by decide) ?_ | refine g_seq ?_ | refine g_region ?_ | refine g_block ?_ | refine g_ret ?_ | refine g_return_n ?_ | refine g_exit ?_ | refine g_skip ?_)
    refine g_draw [7] [0,1,2,3,4,5,6,7] [cellsB p #[.slice U (ys.length + 1) d, .bool false] 134, osl 58 ElemD.enc 12 U d (ys.take i ++ w :: ys.drop i), cellsB q x.val.cells 58] mixed rfl ?_
    refine ob_q rfl rfl ⟨_, fun X Q h => o_move (g_end (h _ _ ⟨rfl, rfl⟩)), ?_⟩
    refine ob_q rfl rfl ⟨_, fun X Q h => o_nil rfl (g_end (h _ _ ⟨rfl, rfl⟩)), ?_⟩
    refine ob_q rfl rfl ⟨_, fun X Q h => o_field rfl (g_end (h _ _ ⟨rfl, rfl⟩)), ?_⟩
    refine ob_q rfl rfl ⟨_, fun X Q h => o_load1 (v := .slice U (ys.length + 1) d) rfl rfl (g_end (h _ _ ⟨rfl, rfl⟩)), ?_⟩
    refine ob_q rfl rfl ⟨_, fun X Q h => o_move (g_end (h _ _ ⟨rfl, rfl⟩)), ?_⟩
    refine ob_q rfl rfl ⟨_, fun X Q h => o_loadN (v := x.val) rfl rfl rfl (g_end (h _ _ ⟨rfl, rfl⟩)), ?_⟩
    refine ob_q rfl rfl ⟨_, fun X Q h => o_indexR (i := i) rfl rfl rfl (by omega) hlen rfl (g_end (h _ _ ⟨rfl, rfl⟩)), ?_⟩
    refine ob_s ([]) rfl rfl rfl fun Qz hz => o_storeE (e := 58) (c := d) (v := x.val) (z := x) (i := i) (enc := ElemD.enc) (xs := ys.take i ++ w :: ys.drop i) rfl rfl rfl rfl (by omega) <| g_end (hz _ _ ⟨_, ob_fin, ?_⟩)
    clear hz Qz
    refine ob_nil ?_
    have hset : (ys.take i ++ w :: ys.drop i).set i x = ys.take i ++ x :: ys.drop i := by
      have h3 : (ys.take i).length = i := by simp; omega
      rw [List.set_append_right _ _ (by omega), h3, Nat.sub_self, List.set_cons_zero]
    rw [hset]
    repeat (first | refine g_endt ?_ | refine g_end ?_ | refine g_then ?_ | refine g_in_normal ?_ | refine g_then_ret ?_ | refine g_in_ret ?_ | refine g_then_exit ?_ | refine g_in_exit rfl ?_ | refine g_in_exit_ne (by decide) ?_ | refine g_seq ?_ | refine g_region ?_ | refine g_block ?_ | refine g_ret ?_ | refine g_return_n ?_ | refine g_exit ?_ | refine g_skip ?_)
    refine o_assign ?_
    first | refine g_endt ?_ | refine g_end ?_
    refine shutFES p (ys.take i ++ x :: ys.drop i) U d (len := ys.length + 1) (by simp; omega) ?_
    repeat (first | refine g_endt ?_ | refine g_end ?_ | refine g_then ?_ | refine g_in_normal ?_ | refine g_then_ret ?_ | refine g_in_ret ?_ | refine g_then_exit ?_ | refine g_in_exit rfl ?_ | refine g_in_exit_ne (by decide) ?_ | refine g_seq ?_ | refine g_region ?_ | refine g_block ?_ | refine g_ret ?_ | refine g_return_n ?_ | refine g_exit ?_ | refine g_skip ?_)
    exact ret1 (K := [SetAES p (ys.take i ++ x :: ys.drop i)]) rfl (resT rfl) ⟨i, false, rfl, rfl, hk⟩
end Go.Proofs.YtonaccfoelgpnaaGreat
/- An ordered set's Put, told as a function of lists. -/
namespace Go.Proofs.YtonaccfoelgpnaaGreat
open Go Go.Sl

theorem PutCES_spec (p : Nat) (ys : List ElemD) (x : ElemD) (hs : Srt ElemD.cmp ys) (hl : ys.length < 1000000000) : Ctr Tryz.prog 70 [.pointer (some ⟨p, 0, none⟩), x.val] [SetAES p ys]
    (fun v M => v = .bool (!hasC ElemD.cmp ys x) ∧ M = [SetAES p (insC ElemD.cmp ys x)]) := (PutES_spec p ys x hs hl).mono fun v M ⟨k, there, h1, h2, h3⟩ => by
  rw [h1, h2, hasC_of h3, insC_of ElemD.lin hs h3]
  exact ⟨rfl, rfl⟩
end Go.Proofs.YtonaccfoelgpnaaGreat
/- An ordered set's functions, for one type of members: told in order; made; how many; at a place. -/
namespace Go.Proofs.YtonaccfoelgpnaaGreat
open Go Go.Sl
attribute [local irreducible] Code.wpIn roundPost bodyPostM runL Ret Meets Begin

theorem fromSP_spec (p k : Nat) (ys : List PgSP) (hl : ys.length < 1000000000) (hk : k ≤ ys.length) (l : Nat) (J Jx : List PgSP → List SProp) {M : List SProp} [tk : Take1 (J []) (SetASP p ys) M]
    (hy : ∀ pre x, (pre ++ [x]) <+: ys.drop k → Sl.Yields Tryz.prog l (PgSP.enc' x) (J pre) (J (pre ++ [x])) (Jx (pre ++ [x]))) :
    Ctr Tryz.prog 89 [.pointer (some ⟨p, 0, none⟩), .int .i64 (k : Int), .func (.yield l) #[] #[]] (J []) (fun _ L' => L' = J (ys.drop k) ∨ ∃ pre, pre <+: ys.drop k ∧ L' = Jx pre) := by
  refine spec_of Tryz.func89 rfl Tryz.ntmps89 rfl fun w0 F => ?_
  repeat (first | refine g_endt ?_ | refine g_end ?_ | refine g_then ?_ | refine g_in_normal ?_ | refine g_then_ret ?_ | refine g_in_ret ?_ | refine g_then_exit ?_ | refine g_in_exit rfl ?_ | refine g_in_exit_ne (by decide) ?_ | refine g_seq ?_ | refine g_region ?_ | refine g_block ?_ | refine g_ret ?_ | refine g_return_n ?_ | refine g_exit ?_ | refine g_skip ?_)
  refine openSP p ys fun S c b => ?_
  refine o_move ?_
  refine o_nil rfl ?_
  refine o_field rfl ?_
  refine o_store (v := .bool true) rfl rfl rfl rfl rfl ?_
  refine g_endt ?_
  refine G.norm p #[.slice S ys.length c, .bool true] rfl ?_
  refine G.bring [row 84 PgSP.enc 7 b S c ys] ?_
  refine G.see1 ?_
  repeat (first | refine g_endt ?_ | refine g_end ?_ | refine g_then ?_ | refine g_in_normal ?_ | refine g_then_ret ?_ | refine g_in_ret ?_ | refine g_then_exit ?_ | refine g_in_exit rfl ?_ | refine g_in_exit_ne (by decide) ?_ | refine g_seq ?_ | refine g_region ?_ | refine g_block ?_ | refine g_ret ?_ | refine g_return_n ?_ | refine g_exit ?_ | refine g_skip ?_)
  refine o_move ?_
  refine o_nil rfl ?_
  refine o_field rfl ?_
  refine o_load1 (v := .slice S ys.length c) rfl rfl ?_
  refine o_assign ?_
  refine g_endt ?_
  refine G.dup (psl PgSP.enc 7 S ys) ?_
  refine shutTSP p ys S c rfl ?_
  repeat (first | refine g_endt ?_ | refine g_end ?_ | refine g_then ?_ | refine g_in_normal ?_ | refine g_then_ret ?_ | refine g_in_ret ?_ | refine g_then_exit ?_ | refine g_in_exit rfl ?_ | refine g_in_exit_ne (by decide) ?_ | refine g_seq ?_ | refine g_region ?_ | refine g_block ?_ | refine g_ret ?_ | refine g_return_n ?_ | refine g_exit ?_ | refine g_skip ?_)
  refine o_move ?_
  refine o_assign ?_
  first | refine g_endt ?_ | refine g_end ?_
  repeat (first | refine g_endt ?_ | refine g_end ?_ | refine g_then ?_ | refine g_in_normal ?_ | refine g_then_ret ?_ | refine g_in_ret ?_ | refine g_then_exit ?_ | refine g_in_exit rfl ?_ | refine g_in_exit_ne (by decide) ?_ | refine g_seq ?_ | refine g_region ?_ | refine g_block ?_ | refine g_ret ?_ | refine g_return_n ?_ | refine g_exit ?_ | refine g_skip ?_)
  refine g_loop (σ := {i : Nat // k ≤ i ∧ i ≤ ys.length}) (S := fun i => [(2, .func (.yield l) #[] #[]), (6, .slice S ys.length c), (7, .int .i64 (i.1 : Int))])
    (H := fun i => psl PgSP.enc 7 S ys :: J ((ys.drop k).take (i.1 - k))) (μ := fun i => ys.length - i.1) (s0 := ⟨k, Nat.le_refl _, hk⟩) (Sat.mem ⟨rfl, rfl, rfl, trivial⟩)
    (t := by simp only [Nat.sub_self, List.take_zero]; exact Take.setback) ?_
  rintro ⟨i, h1, h2⟩ ρ'
  dsimp only at h1 h2 ⊢
  repeat (first | refine g_endt ?_ | refine g_end ?_ | refine g_then ?_ | refine g_in_normal ?_ | refine g_then_ret ?_ | refine g_in_ret ?_ | refine g_then_exit ?_ | refine g_in_exit rfl ?_ | refine g_in_exit_ne (by decide) ?_ | refine g_seq ?_ | refine g_region ?_ | refine g_block ?_ | refine g_ret ?_ | refine g_return_n ?_ | refine g_exit ?_ | refine g_skip ?_)
  refine o_move ?_
  refine o_move ?_
  refine o_len rfl rfl ?_
  refine o_lss rfl rfl ?_
  first | refine g_endt ?_ | refine g_end ?_
  by_cases h : i < ys.length
  · first | refine g_seq (g_cond_t rfl (by simpa using h) ?_) | refine g_cond_t rfl (by simpa using h) ?_
    repeat (first | refine g_endt ?_ | refine g_end ?_ | refine g_then ?_ | refine g_in_normal ?_ | refine g_then_ret ?_ | refine g_in_ret ?_ | refine g_then_exit ?_ | refine g_in_exit rfl ?_ | refine g_in_exit_ne (by decide) ?_ | refine g_seq ?_ | refine g_region ?_ | refine g_block ?_ | refine g_ret ?_ | refine g_return_n ?_ | refine g_exit ?_ | refine g_skip ?_)
    obtain ⟨y, hz⟩ : ∃ y, ys[i]? = some y := ⟨_, List.getElem?_eq_getElem h⟩
    have ht : (ys.drop k).take (i + 1 - k) = (ys.drop k).take (i - k) ++ [y] := by
      rw [show i + 1 - k = (i - k) + 1 by omega]
      exact take_snocPSP _ _ _ (by rw [List.getElem?_drop, show k + (i - k) = i by omega, hz])
    have hp : ((ys.drop k).take (i - k) ++ [y]) <+: ys.drop k := ⟨(ys.drop k).drop (i + 1 - k), by rw [← ht, List.take_append_drop]⟩
    refine o_move ?_
    refine o_move ?_
    refine o_move ?_
    refine o_indexR (i := i) rfl rfl rfl h rfl rfl ?_
    refine o_loadE (enc := PgSP.enc) rfl rfl hz ?_
    refine o_yield (hy _ y hp) rfl rfl ?_ ?_
    · refine o_not rfl ?_
      refine g_endt ?_
      refine g_cond_f rfl rfl ?_
      repeat (first | refine g_endt ?_ | refine g_end ?_ | refine g_then ?_ | refine g_in_normal ?_ | refine g_then_ret ?_ | refine g_in_ret ?_ | refine g_then_exit ?_ | refine g_in_exit rfl ?_ | refine g_in_exit_ne (by decide) ?_ | refine g_seq ?_ | refine g_region ?_ | refine g_block ?_ | refine g_ret ?_ | refine g_return_n ?_ | refine g_exit ?_ | refine g_skip ?_)
      refine o_move ?_
      refine o_add (c := ((i + 1 : Nat) : Int)) rfl rfl (by omega) (by omega) (by omega) ?_
      refine o_assign ?_
      refine g_endt ?_
      repeat (first | refine g_endt ?_ | refine g_end ?_ | refine g_then ?_ | refine g_in_normal ?_ | refine g_then_ret ?_ | refine g_in_ret ?_ | refine g_then_exit ?_ | refine g_in_exit rfl ?_ | refine g_in_exit_ne (by decide) ?_ | refine g_seq ?_ | refine g_region ?_ | refine g_block ?_ | refine g_ret ?_ | refine g_return_n ?_ | refine g_exit ?_ | refine g_skip ?_)
      exact g_meets ⟨i + 1, by omega, h⟩ (by show ys.length - (i + 1) < ys.length - i; omega) (Sat.mem ⟨rfl, rfl, rfl, trivial⟩) (t := by rw [ht]; infer_instance)
    · refine o_not rfl ?_
      refine g_endt ?_
      refine g_cond_t rfl rfl ?_
      repeat (first | refine g_endt ?_ | refine g_end ?_ | refine g_then ?_ | refine g_in_normal ?_ | refine g_then_ret ?_ | refine g_in_ret ?_ | refine g_then_exit ?_ | refine g_in_exit rfl ?_ | refine g_in_exit_ne (by decide) ?_ | refine g_seq ?_ | refine g_region ?_ | refine g_block ?_ | refine g_ret ?_ | refine g_return_n ?_ | refine g_exit ?_ | refine g_skip ?_)
      exact ret0 rfl (.inr ⟨_, hp, rfl⟩)
  · first | refine g_seq (g_cond_f rfl (by simpa using h) ?_) | refine g_cond_f rfl (by simpa using h) ?_
    repeat (first | refine g_endt ?_ | refine g_end ?_ | refine g_then ?_ | refine g_in_normal ?_ | refine g_then_ret ?_ | refine g_in_ret ?_ | refine g_then_exit ?_ | refine g_in_exit rfl ?_ | refine g_in_exit_ne (by decide) ?_ | refine g_seq ?_ | refine g_region ?_ | refine g_block ?_ | refine g_ret ?_ | refine g_return_n ?_ | refine g_exit ?_ | refine g_skip ?_)
    have he : (ys.drop k).take (i - k) = ys.drop k := List.take_of_length_le (by simp; omega)
    exact ret0 (K := J ((ys.drop k).take (i - k))) rfl (.inl (by rw [he]))
theorem All1SP_iter (p b : Nat) (ys : List PgSP) (hl : ys.length < 1000000000) (J0 : List SProp) {M : List SProp} [tk : Take1 J0 (SetASP p ys) M] [HasP J0 (pblk b (.cells #[.pointer (some ⟨p, 0, none⟩)] 81 (0, 0)))] :
    Iter Tryz.prog 88 [.pointer (some ⟨b, 0, none⟩)] PgSP.enc' ys J0 := by
  intro l J Jx hJ hy
  subst hJ
  refine spec_of Tryz.func88 rfl Tryz.ntmps88 rfl fun w0 F => ?_
  refine G.dup (pblk b (.cells #[.pointer (some ⟨p, 0, none⟩)] 81 (0, 0))) ?_
  repeat (first | refine g_endt ?_ | refine g_end ?_ | refine g_then ?_ | refine g_in_normal ?_ | refine g_then_ret ?_ | refine g_in_ret ?_ | refine g_then_exit ?_ | refine g_in_exit rfl ?_ | refine g_in_exit_ne (by decide) ?_ | refine g_seq ?_ | refine g_region ?_ | refine g_block ?_ | refine g_ret ?_ | refine g_return_n ?_ | refine g_exit ?_ | refine g_skip ?_)
  refine o_load1 (v := .pointer (some ⟨p, 0, none⟩)) rfl rfl ?_
  refine o_pneq rfl ?_
  refine g_endt ?_
  first | refine g_seq (g_cond_t rfl (rfl) ?_) | refine g_cond_t rfl (rfl) ?_
  repeat (first | refine g_endt ?_ | refine g_end ?_ | refine g_then ?_ | refine g_in_normal ?_ | refine g_then_ret ?_ | refine g_in_ret ?_ | refine g_then_exit ?_ | refine g_in_exit rfl ?_ | refine g_in_exit_ne (by decide) ?_ | refine g_seq ?_ | refine g_region ?_ | refine g_block ?_ | refine g_ret ?_ | refine g_return_n ?_ | refine g_exit ?_ | refine g_skip ?_)
  refine o_load1 (v := .pointer (some ⟨p, 0, none⟩)) rfl rfl ?_
  refine o_move ?_
  refine o_call (fromSP_spec p 0 ys hl (Nat.zero_le _) l J Jx (by simpa using hy)) rfl rfl ?_
  intro v L' hR
  repeat (first | refine g_endt ?_ | refine g_end ?_ | refine g_then ?_ | refine g_in_normal ?_ | refine g_then_ret ?_ | refine g_in_ret ?_ | refine g_then_exit ?_ | refine g_in_exit rfl ?_ | refine g_in_exit_ne (by decide) ?_ | refine g_seq ?_ | refine g_region ?_ | refine g_block ?_ | refine g_ret ?_ | refine g_return_n ?_ | refine g_exit ?_ | refine g_skip ?_)
  exact ret0 (K := L') rfl (by simpa using hR)
theorem AllSP_spec (p : Nat) : Ctr Tryz.prog 68 [.pointer (some ⟨p, 0, none⟩)] []
    (fun v M => ∃ b, v = .func (.func 88) #[] #[.pointer (some ⟨b, 0, none⟩)] ∧ M = [pblk b (.cells #[.pointer (some ⟨p, 0, none⟩)] 81 (0, 0))]) := by
  refine spec_of Tryz.func68 rfl Tryz.ntmps68 rfl fun w0 F => ?_
  repeat (first | refine g_endt ?_ | refine g_end ?_ | refine g_then ?_ | refine g_in_normal ?_ | refine g_then_ret ?_ | refine g_in_ret ?_ | refine g_then_exit ?_ | refine g_in_exit rfl ?_ | refine g_in_exit_ne (by decide) ?_ | refine g_seq ?_ | refine g_region ?_ | refine g_block ?_ | refine g_ret ?_ | refine g_return_n ?_ | refine g_exit ?_ | refine g_skip ?_)
  refine o_boxc #[.pointer (some ⟨p, 0, none⟩)] rfl rfl fun b => ?_
  refine G.freeze ?_
  refine o_assign ?_
  first | refine g_endt ?_ | refine g_end ?_
  repeat (first | refine g_endt ?_ | refine g_end ?_ | refine g_then ?_ | refine g_in_normal ?_ | refine g_then_ret ?_ | refine g_in_ret ?_ | refine g_then_exit ?_ | refine g_in_exit rfl ?_ | refine g_in_exit_ne (by decide) ?_ | refine g_seq ?_ | refine g_region ?_ | refine g_block ?_ | refine g_ret ?_ | refine g_return_n ?_ | refine g_exit ?_ | refine g_skip ?_)
  refine o_func ?_
  refine o_assign ?_
  first | refine g_endt ?_ | refine g_end ?_
  repeat (first | refine g_endt ?_ | refine g_end ?_ | refine g_then ?_ | refine g_in_normal ?_ | refine g_then_ret ?_ | refine g_in_ret ?_ | refine g_then_exit ?_ | refine g_in_exit rfl ?_ | refine g_in_exit_ne (by decide) ?_ | refine g_seq ?_ | refine g_region ?_ | refine g_block ?_ | refine g_ret ?_ | refine g_return_n ?_ | refine g_exit ?_ | refine g_skip ?_)
  exact ret1 rfl (resT rfl) ⟨b, rfl, rfl⟩
end Go.Proofs.YtonaccfoelgpnaaGreat
/- An ordered map's functions, for one type of keys and one of values: told in order. -/
namespace Go.Proofs.YtonaccfoelgpnaaGreat
open Go Go.Sl
attribute [local irreducible] Code.wpIn roundPost bodyPostM runL Ret Meets Begin

theorem AllM1SP_iter (m b : Nat) (ys : List PgSP) (hl : ys.length < 1000000000) (J0 : List SProp) {M : List SProp} [tk : Take1 J0 (MapASP m ys) M] [HasP J0 (pblk b (.cells #[.pointer (some ⟨m, 0, none⟩)] 46 (0, 0)))] :
    Iter Tryz.prog 67 [.pointer (some ⟨b, 0, none⟩)] PgSP.enc2 ys J0 := by
  intro l J Jx hJ hy
  subst hJ
  refine spec_of Tryz.func67 rfl Tryz.ntmps67 rfl fun w0 F => ?_
  refine G.dup (pblk b (.cells #[.pointer (some ⟨m, 0, none⟩)] 46 (0, 0))) ?_
  repeat (first | refine g_endt ?_ | refine g_end ?_ | refine g_then ?_ | refine g_in_normal ?_ | refine g_then_ret ?_ | refine g_in_ret ?_ | refine g_then_exit ?_ | refine g_in_exit rfl ?_ | refine g_in_exit_ne (by decide) ?_ | refine g_seq ?_ | refine g_region ?_ | refine g_block ?_ | refine g_ret ?_ | refine g_return_n ?_ | refine g_exit ?_ | refine g_skip ?_)
  refine o_boxc #[.func (.yield l) #[] #[]] rfl rfl fun q => ?_
  refine g_endt ?_
  repeat (first | refine g_endt ?_ | refine g_end ?_ | refine g_then ?_ | refine g_in_normal ?_ | refine g_then_ret ?_ | refine g_in_ret ?_ | refine g_then_exit ?_ | refine g_in_exit rfl ?_ | refine g_in_exit_ne (by decide) ?_ | refine g_seq ?_ | refine g_region ?_ | refine g_block ?_ | refine g_ret ?_ | refine g_return_n ?_ | refine g_exit ?_ | refine g_skip ?_)
  refine o_load1 (v := .pointer (some ⟨m, 0, none⟩)) rfl rfl ?_
  refine o_peql rfl ?_
  refine g_endt ?_
  first | refine g_seq (g_cond_f rfl (rfl) ?_) | refine g_cond_f rfl (rfl) ?_
  repeat (first | refine g_endt ?_ | refine g_end ?_ | refine g_then ?_ | refine g_in_normal ?_ | refine g_then_ret ?_ | refine g_in_ret ?_ | refine g_then_exit ?_ | refine g_in_exit rfl ?_ | refine g_in_exit_ne (by decide) ?_ | refine g_seq ?_ | refine g_region ?_ | refine g_block ?_ | refine g_ret ?_ | refine g_return_n ?_ | refine g_exit ?_ | refine g_skip ?_)
  refine openMSP m ys fun p => ?_
  refine o_load1 (v := .pointer (some ⟨m, 0, none⟩)) rfl rfl ?_
  refine o_nil rfl ?_
  refine o_field rfl ?_
  refine o_load1 (v := .pointer (some ⟨p, 0, none⟩)) rfl rfl ?_
  refine o_call (AllSP_spec p) rfl rfl ?_
  rintro _ _ ⟨b2, rfl, rfl⟩
  refine g_endt ?_
  repeat (first | refine g_endt ?_ | refine g_end ?_ | refine g_then ?_ | refine g_in_normal ?_ | refine g_then_ret ?_ | refine g_in_ret ?_ | refine g_then_exit ?_ | refine g_in_exit rfl ?_ | refine g_in_exit_ne (by decide) ?_ | refine g_seq ?_ | refine g_region ?_ | refine g_block ?_ | refine g_ret ?_ | refine g_return_n ?_ | refine g_exit ?_ | refine g_skip ?_)
  have hO : Ent (sl (SetASP p ys :: cellsB m #[.pointer (some ⟨p, 0, none⟩)] 86 :: M)) (sl (J [])) := MapASP_of m p ys
  refine g_range (ps := [11]) (lb := [.pointer (some ⟨b2, 0, none⟩)]) (enc := PgSP.enc') (xs := ys) rfl
    (fun pre => cellsB q #[.func (.yield l) #[] #[]] 116 :: pblk b2 (.cells #[.pointer (some ⟨p, 0, none⟩)] 81 (0, 0)) :: Jin (SetASP p ys :: cellsB m #[.pointer (some ⟨p, 0, none⟩)] 86 :: M) J pre)
    (fun c pre => pu (c = .ret) :: Jx pre)
    (fun K => All1SP_iter p b2 ys hl (K :: cellsB q #[.func (.yield l) #[] #[]] 116 :: pblk b2 (.cells #[.pointer (some ⟨p, 0, none⟩)] 81 (0, 0)) :: SetASP p ys :: cellsB m #[.pointer (some ⟨p, 0, none⟩)] 86 :: M))
    (fun _ => rfl) (tk := (inferInstance : Take _ (cellsB q #[.func (.yield l) #[] #[]] 116 :: pblk b2 (.cells #[.pointer (some ⟨p, 0, none⟩)] 81 (0, 0)) :: SetASP p ys :: cellsB m #[.pointer (some ⟨p, 0, none⟩)] 86 :: M) _)) ?_ ?_ ?_
  · intro w0 F l' r pre x hp
    refine G.ent (L' := cellsB q #[.func (.yield l) #[] #[]] 116 :: pblk b2 (.cells #[.pointer (some ⟨p, 0, none⟩)] 81 (0, 0)) :: J pre) ((Ent.refl _).star ((Ent.refl _).star (Jin_ent hO pre))) ?_
    repeat (first | refine g_endt ?_ | refine g_end ?_ | refine g_then ?_ | refine g_in_normal ?_ | refine g_then_ret ?_ | refine g_in_ret ?_ | refine g_then_exit ?_ | refine g_in_exit rfl ?_ | refine g_in_exit_ne (by decide) ?_ | refine g_seq ?_ | refine g_region ?_ | refine g_block ?_ | refine g_ret ?_ | refine g_return_n ?_ | refine g_exit ?_ | refine g_skip ?_)
    refine o_alloc fun c => ?_
    refine o_store (v := x.val) rfl rfl rfl rfl rfl ?_
    refine g_endt ?_
    refine G.norm c x.val.cells rfl ?_
    repeat (first | refine g_endt ?_ | refine g_end ?_ | refine g_then ?_ | refine g_in_normal ?_ | refine g_then_ret ?_ | refine g_in_ret ?_ | refine g_then_exit ?_ | refine g_in_exit rfl ?_ | refine g_in_exit_ne (by decide) ?_ | refine g_seq ?_ | refine g_region ?_ | refine g_block ?_ | refine g_ret ?_ | refine g_return_n ?_ | refine g_exit ?_ | refine g_skip ?_)
    refine g_begin ?_
    repeat (first | refine g_endt ?_ | refine g_end ?_ | refine g_then ?_ | refine g_in_normal ?_ | refine g_then_ret ?_ | refine g_in_ret ?_ | refine g_then_exit ?_ | refine g_in_exit rfl ?_ | refine g_in_exit_ne (by decide) ?_ | refine g_seq ?_ | refine g_region ?_ | refine g_block ?_ | refine g_ret ?_ | refine g_return_n ?_ | refine g_exit ?_ | refine g_skip ?_)
    refine o_load1 (v := .func (.yield l) #[] #[]) rfl rfl ?_
    refine o_field rfl ?_
    refine o_loadN (v := x.k.val) rfl rfl rfl ?_
    refine o_field rfl ?_
    refine o_load1 (v := PgSP.vval x.v) rfl rfl ?_
    refine o_yield (hy pre x hp) rfl rfl ?_ ?_
    · refine o_not rfl ?_
      refine g_endt ?_
      first | refine g_seq (g_cond_f rfl (rfl) ?_) | refine g_cond_f rfl (rfl) ?_
      repeat (first | refine g_endt ?_ | refine g_end ?_ | refine g_then ?_ | refine g_in_normal ?_ | refine g_then_ret ?_ | refine g_in_ret ?_ | refine g_then_exit ?_ | refine g_in_exit rfl ?_ | refine g_in_exit_ne (by decide) ?_ | refine g_seq ?_ | refine g_region ?_ | refine g_block ?_ | refine g_ret ?_ | refine g_return_n ?_ | refine g_exit ?_ | refine g_skip ?_)
      exact g_next (tk := by rw [Jin_snoc]; infer_instance)
    · refine o_not rfl ?_
      refine g_endt ?_
      first | refine g_seq (g_cond_t rfl (rfl) ?_) | refine g_cond_t rfl (rfl) ?_
      repeat (first | refine g_endt ?_ | refine g_end ?_ | refine g_then ?_ | refine g_in_normal ?_ | refine g_then_ret ?_ | refine g_in_ret ?_ | refine g_then_exit ?_ | refine g_in_exit rfl ?_ | refine g_in_exit_ne (by decide) ?_ | refine g_seq ?_ | refine g_region ?_ | refine g_block ?_ | refine g_ret ?_ | refine g_return_n ?_ | refine g_exit ?_ | refine g_skip ?_)
      refine G.pu_in (q := Code.ret = Code.ret) rfl ?_
      exact g_leave_ret
  · intro D
    refine G.ent (L' := cellsB q #[.func (.yield l) #[] #[]] 116 :: pblk b2 (.cells #[.pointer (some ⟨p, 0, none⟩)] 81 (0, 0)) :: J ys) ((Ent.refl _).star ((Ent.refl _).star (Jin_ent hO ys))) ?_
    repeat (first | refine g_endt ?_ | refine g_end ?_ | refine g_then ?_ | refine g_in_normal ?_ | refine g_then_ret ?_ | refine g_in_ret ?_ | refine g_then_exit ?_ | refine g_in_exit rfl ?_ | refine g_in_exit_ne (by decide) ?_ | refine g_seq ?_ | refine g_region ?_ | refine g_block ?_ | refine g_ret ?_ | refine g_return_n ?_ | refine g_exit ?_ | refine g_skip ?_)
    exact ret0 (K := J ys) rfl (.inl rfl)
  · intro D c pre hp
    refine G.pu fun h => ?_
    subst h
    repeat (first | refine g_endt ?_ | refine g_end ?_ | refine g_then ?_ | refine g_in_normal ?_ | refine g_then_ret ?_ | refine g_in_ret ?_ | refine g_then_exit ?_ | refine g_in_exit rfl ?_ | refine g_in_exit_ne (by decide) ?_ | refine g_seq ?_ | refine g_region ?_ | refine g_block ?_ | refine g_ret ?_ | refine g_return_n ?_ | refine g_exit ?_ | refine g_skip ?_)
    exact ret0 (K := Jx pre) rfl (.inr ⟨pre, hp, rfl⟩)
theorem AllMSP_spec (m : Nat) : Ctr Tryz.prog 42 [.pointer (some ⟨m, 0, none⟩)] []
    (fun v M => ∃ b, v = .func (.func 67) #[] #[.pointer (some ⟨b, 0, none⟩)] ∧ M = [pblk b (.cells #[.pointer (some ⟨m, 0, none⟩)] 46 (0, 0))]) := by
  refine spec_of Tryz.func42 rfl Tryz.ntmps42 rfl fun w0 F => ?_
  repeat (first | refine g_endt ?_ | refine g_end ?_ | refine g_then ?_ | refine g_in_normal ?_ | refine g_then_ret ?_ | refine g_in_ret ?_ | refine g_then_exit ?_ | refine g_in_exit rfl ?_ | refine g_in_exit_ne (by decide) ?_ | refine g_seq ?_ | refine g_region ?_ | refine g_block ?_ | refine g_ret ?_ | refine g_return_n ?_ | refine g_exit ?_ | refine g_skip ?_)
  refine o_boxc #[.pointer (some ⟨m, 0, none⟩)] rfl rfl fun b => ?_
  refine G.freeze ?_
  refine o_assign ?_
  first | refine g_endt ?_ | refine g_end ?_
  repeat (first | refine g_endt ?_ | refine g_end ?_ | refine g_then ?_ | refine g_in_normal ?_ | refine g_then_ret ?_ | refine g_in_ret ?_ | refine g_then_exit ?_ | refine g_in_exit rfl ?_ | refine g_in_exit_ne (by decide) ?_ | refine g_seq ?_ | refine g_region ?_ | refine g_block ?_ | refine g_ret ?_ | refine g_return_n ?_ | refine g_exit ?_ | refine g_skip ?_)
  refine o_func ?_
  refine o_assign ?_
  first | refine g_endt ?_ | refine g_end ?_
  repeat (first | refine g_endt ?_ | refine g_end ?_ | refine g_then ?_ | refine g_in_normal ?_ | refine g_then_ret ?_ | refine g_in_ret ?_ | refine g_then_exit ?_ | refine g_in_exit rfl ?_ | refine g_in_exit_ne (by decide) ?_ | refine g_seq ?_ | refine g_region ?_ | refine g_block ?_ | refine g_ret ?_ | refine g_return_n ?_ | refine g_exit ?_ | refine g_skip ?_)
  exact ret1 rfl (resT rfl) ⟨b, rfl, rfl⟩
end Go.Proofs.YtonaccfoelgpnaaGreat
/- An ordered set's functions, for one type of members: made. -/
namespace Go.Proofs.YtonaccfoelgpnaaGreat
open Go Go.Sl
attribute [local irreducible] Code.wpIn roundPost bodyPostM runL Ret Meets Begin

theorem NilES_set (p : Nat) {w0 : World} {A : SProp} {L M : List SProp} {Φ : World → Prop} [tk : Take1 L (cellsB p #[.slice none 0 0, .bool false] 134) M] (h : G w0 A (SetAES p [] :: M) Φ) : G w0 A L Φ :=
  G.perm tk.perm (G.nil_slice (α := ElemD) 58 ElemD.enc 12 (shutFES p [] none 0 rfl (M := M) (tk := ⟨List.Perm.swap _ _ _⟩) h))
theorem NewES_spec : Ctr Tryz.prog 69 [.slice none 0 0] [] (fun v M => ∃ p, v = .pointer (some ⟨p, 0, none⟩) ∧ M = [SetAES p []]) := by
  refine spec_of Tryz.func69 rfl Tryz.ntmps69 rfl fun w0 F => ?_
  repeat (first | refine g_endt ?_ | refine g_end ?_ | refine g_then ?_ | refine g_in_normal ?_ | refine g_then_ret ?_ | refine g_in_ret ?_ | refine g_then_exit ?_ | refine g_in_exit rfl ?_ | refine g_in_exit_ne (by decide) ?_ | refine g_seq ?_ | refine g_region ?_ | refine g_block ?_ | refine g_ret ?_ | refine g_return_n ?_ | refine g_exit ?_ | refine g_skip ?_)
  refine o_assign ?_
  first | refine g_endt ?_ | refine g_end ?_
  repeat (first | refine g_endt ?_ | refine g_end ?_ | refine g_then ?_ | refine g_in_normal ?_ | refine g_then_ret ?_ | refine g_in_ret ?_ | refine g_then_exit ?_ | refine g_in_exit rfl ?_ | refine g_in_exit_ne (by decide) ?_ | refine g_seq ?_ | refine g_region ?_ | refine g_block ?_ | refine g_ret ?_ | refine g_return_n ?_ | refine g_exit ?_ | refine g_skip ?_)
  refine o_build (.agg #[.slice none 0 0, .bool false]) (fun w => by kernel_rfl) ?_
  refine o_boxc #[.slice none 0 0, .bool false] rfl rfl fun p => ?_
  refine NilES_set p ?_
  refine o_assign ?_
  refine g_endt ?_
  repeat (first | refine g_endt ?_ | refine g_end ?_ | refine g_then ?_ | refine g_in_normal ?_ | refine g_then_ret ?_ | refine g_in_ret ?_ | refine g_then_exit ?_ | refine g_in_exit rfl ?_ | refine g_in_exit_ne (by decide) ?_ | refine g_seq ?_ | refine g_region ?_ | refine g_block ?_ | refine g_ret ?_ | refine g_return_n ?_ | refine g_exit ?_ | refine g_skip ?_)
  refine o_move ?_
  refine o_len rfl rfl ?_
  refine o_move ?_
  first | refine g_endt ?_ | refine g_end ?_
  repeat (first | refine g_endt ?_ | refine g_end ?_ | refine g_then ?_ | refine g_in_normal ?_ | refine g_then_ret ?_ | refine g_in_ret ?_ | refine g_then_exit ?_ | refine g_in_exit rfl ?_ | refine g_in_exit_ne (by decide) ?_ | refine g_seq ?_ | refine g_region ?_ | refine g_block ?_ | refine g_ret ?_ | refine g_return_n ?_ | refine g_exit ?_ | refine g_skip ?_)
  refine g_loop (σ := Unit) (S := fun _ => [(3, .pointer (some ⟨p, 0, none⟩)), (9, .int .i64 0), (10, .int .i64 0)]) (H := fun _ => [SetAES p []]) (μ := fun _ => 0) (s0 := ()) (Sat.mem ⟨rfl, rfl, rfl, trivial⟩) ?_
  rintro _ ρ'
  repeat (first | refine g_endt ?_ | refine g_end ?_ | refine g_then ?_ | refine g_in_normal ?_ | refine g_then_ret ?_ | refine g_in_ret ?_ | refine g_then_exit ?_ | refine g_in_exit rfl ?_ | refine g_in_exit_ne (by decide) ?_ | refine g_seq ?_ | refine g_region ?_ | refine g_block ?_ | refine g_ret ?_ | refine g_return_n ?_ | refine g_exit ?_ | refine g_skip ?_)
  refine o_lss rfl rfl ?_
  first | refine g_endt ?_ | refine g_end ?_
  first | refine g_seq (g_cond_f rfl (rfl) ?_) | refine g_cond_f rfl (rfl) ?_
  repeat (first | refine g_endt ?_ | refine g_end ?_ | refine g_then ?_ | refine g_in_normal ?_ | refine g_then_ret ?_ | refine g_in_ret ?_ | refine g_then_exit ?_ | refine g_in_exit rfl ?_ | refine g_in_exit_ne (by decide) ?_ | refine g_seq ?_ | refine g_region ?_ | refine g_block ?_ | refine g_ret ?_ | refine g_return_n ?_ | refine g_exit ?_ | refine g_skip ?_)
  refine o_move ?_
  refine o_assign ?_
  first | refine g_endt ?_ | refine g_end ?_
  repeat (first | refine g_endt ?_ | refine g_end ?_ | refine g_then ?_ | refine g_in_normal ?_ | refine g_then_ret ?_ | refine g_in_ret ?_ | refine g_then_exit ?_ | refine g_in_exit rfl ?_ | refine g_in_exit_ne (by decide) ?_ | refine g_seq ?_ | refine g_region ?_ | refine g_block ?_ | refine g_ret ?_ | refine g_return_n ?_ | refine g_exit ?_ | refine g_skip ?_)
  exact ret1 rfl (resT rfl) ⟨p, rfl, rfl⟩
end Go.Proofs.YtonaccfoelgpnaaGreat
/- An ordered set's functions, for one type of members: where one stands. -/
namespace Go.Proofs.YtonaccfoelgpnaaGreat
open Go Go.Sl
attribute [local irreducible] Code.wpIn roundPost bodyPostM runL Ret Meets Begin

theorem PlaceES_spec (p : Nat) (ys : List ElemD) (x : ElemD) (hs : Srt ElemD.cmp ys) (hl : ys.length ≤ 1000000000) : Ctr Tryz.prog 92 [.pointer (some ⟨p, 0, none⟩), x.val] [SetAES p ys]
    (fun v M => ∃ (k : Nat) (there : Bool), v = .tuple #[.int .i64 (k : Int), .bool there] ∧ M = [SetAES p ys] ∧ FindR ElemD.cmp ys x k there) := by
  refine spec_of Tryz.func92 rfl Tryz.ntmps92 rfl fun w0 F => ?_
  -- (*ponder/order.Set[ponder/api.Elem]).Place
  repeat (first | refine g_endt ?_ | refine g_end ?_ | refine g_then ?_ | refine g_in_normal ?_ | refine g_then_ret ?_ | refine g_in_ret ?_ | refine g_then_exit ?_ | refine g_in_exit rfl ?_ | refine g_in_exit_ne (by decide) ?_ | refine g_seq ?_ | refine g_region ?_ | refine g_block ?_ | refine g_ret ?_ | refine g_return_n ?_ | refine g_exit ?_ | refine g_skip ?_)
  refine o_boxc x.val.cells rfl rfl fun q => ?_
  refine o_assign ?_
  refine o_assign ?_
  first | refine g_endt ?_ | refine g_end ?_
  repeat (first | refine g_endt ?_ | refine g_end ?_ | refine g_then ?_ | refine g_in_normal ?_ | refine g_then_ret ?_ | refine g_in_ret ?_ | refine g_then_exit ?_ | refine g_in_exit rfl ?_ | refine g_in_exit_ne (by decide) ?_ | refine g_seq ?_ | refine g_region ?_ | refine g_block ?_ | refine g_ret ?_ | refine g_return_n ?_ | refine g_exit ?_ | refine g_skip ?_)
  refine o_move ?_
  refine o_peql rfl ?_
  first | refine g_endt ?_ | refine g_end ?_
  first | refine g_seq (g_cond_f rfl (by first | rfl | (simp; done) | (simp; omega) | (simp; assumption)) ?_) | refine g_cond_f rfl (by first | rfl | (simp; done) | (simp; omega) | (simp; assumption)) ?_
  repeat (first | refine g_endt ?_ | refine g_end ?_ | refine g_then ?_ | refine g_in_normal ?_ | refine g_then_ret ?_ | refine g_in_ret ?_ | refine g_then_exit ?_ | refine g_in_exit rfl ?_ | refine g_in_exit_ne (by decide) ?_ | refine g_seq ?_ | refine g_region ?_ | refine g_block ?_ | refine g_ret ?_ | refine g_return_n ?_ | refine g_exit ?_ | refine g_skip ?_)
  refine o_move ?_
  refine o_loadN (v := x.val) rfl rfl rfl ?_
  refine o_call (findES_spec p ys x hs hl) rfl rfl ?_
  rintro _ _ ⟨k, there, rfl, rfl, hk⟩
  refine o_extract rfl rfl ?_
  refine o_extract rfl rfl ?_
  refine o_assign ?_
  refine o_assign ?_
  first | refine g_endt ?_ | refine g_end ?_
  repeat (first | refine g_endt ?_ | refine g_end ?_ | refine g_then ?_ | refine g_in_normal ?_ | refine g_then_ret ?_ | refine g_in_ret ?_ | refine g_then_exit ?_ | refine g_in_exit rfl ?_ | refine g_in_exit_ne (by decide) ?_ | refine g_seq ?_ | refine g_region ?_ | refine g_block ?_ | refine g_ret ?_ | refine g_return_n ?_ | refine g_exit ?_ | refine g_skip ?_)
  exact ret2 (K := [SetAES p ys]) rfl (resT rfl) (resT rfl) ⟨k, there, rfl, rfl, hk⟩
end Go.Proofs.YtonaccfoelgpnaaGreat
