/- Parts of a proof, in order. -/
import Derived.Test.YtonaccfoelgpnaaGreatZAZ5

set_option linter.unusedSimpArgs false
set_option linter.unusedVariables false
/- Is a number one of these? -/
namespace Go.Proofs.YtonaccfoelgpnaaGreat
open Go Go.Sl
attribute [local irreducible] Exit.then Exit.inBlock Code.wpIn roundPost bodyPostM runL Ret Meets MeetsD Begin

/-! ### Is a number one of these? -/
def hasI (l : List Int) (x : Int) : Bool := l.any fun y => y == x
theorem hasI_iff {l : List Int} {x : Int} : hasI l x = true ↔ x ∈ l := by simp [hasI]
theorem HasQ_spec (U : Option Addr) (u m : Nat) (l : List Int) (t : Int) (hm : l.length = m) (hl : m ≤ 1000000) {r : Bool} (hr : hasI l t = r) : Ctr Tryz.prog 52 [.slice U m u, .int .i64 t] [psl encI 1 U l] (fun v M => v = .bool r ∧ M = []) := by
  refine spec_of Tryz.func52 rfl Tryz.ntmps52 rfl fun w0 F => ?_
  -- hide
  -- ponder/ponderref10.Has
  subst hm
  subst hr
  repeat (first | refine g_endt ?_ | refine g_end ?_ | refine g_then ?_ | refine g_in_normal ?_ | refine g_then_ret ?_ | refine g_in_ret ?_ | refine g_then_exit ?_ | refine g_in_exit rfl ?_ | refine g_in_exit_ne (by decide) ?_ | refine g_seq ?_ | refine g_region ?_ | refine g_block ?_ | refine g_ret ?_ | refine g_return_n ?_ | refine g_exit ?_ | refine g_skip ?_)
  refine g_hideR fun Q_ hQ_ => ?_
  refine o_assign ?_
  refine g_end (G.imp (hQ_ .normal _) ?_)
  clear hQ_ Q_
  try refine g_then ?_
  repeat (first | refine g_endt ?_ | refine g_end ?_ | refine g_then ?_ | refine g_in_normal ?_ | refine g_then_ret ?_ | refine g_in_ret ?_ | refine g_then_exit ?_ | refine g_in_exit rfl ?_ | refine g_in_exit_ne (by decide) ?_ | refine g_seq ?_ | refine g_region ?_ | refine g_block ?_ | refine g_ret ?_ | refine g_return_n ?_ | refine g_exit ?_ | refine g_skip ?_)
  refine g_hideR fun Q_ hQ_ => ?_
  refine o_assign ?_
  refine g_end (G.imp (hQ_ .normal _) ?_)
  clear hQ_ Q_
  try refine g_then ?_
  repeat (first | refine g_endt ?_ | refine g_end ?_ | refine g_then ?_ | refine g_in_normal ?_ | refine g_then_ret ?_ | refine g_in_ret ?_ | refine g_then_exit ?_ | refine g_in_exit rfl ?_ | refine g_in_exit_ne (by decide) ?_ | refine g_seq ?_ | refine g_region ?_ | refine g_block ?_ | refine g_ret ?_ | refine g_return_n ?_ | refine g_exit ?_ | refine g_skip ?_)
  refine g_loop (σ := {i : Nat // i ≤ l.length ∧ ∀ x ∈ l.take i, x ≠ t}) (S := fun i => [(0, .slice U l.length u), (1, .int .i64 t), (5, .int .i64 (i.1 : Int))]) (H := fun _ => [psl encI 1 U l]) (μ := fun i => l.length - i.1) (s0 := ⟨0, Nat.zero_le _, by simp⟩) (Sat.mem ⟨rfl, rfl, rfl, trivial⟩) ?_
  rintro ⟨i, hi, hne⟩ ρ'
  dsimp only at hi hne ⊢
  repeat (first | refine g_endt ?_ | refine g_end ?_ | refine g_then ?_ | refine g_in_normal ?_ | refine g_then_ret ?_ | refine g_in_ret ?_ | refine g_then_exit ?_ | refine g_in_exit rfl ?_ | refine g_in_exit_ne (by decide) ?_ | refine g_seq ?_ | refine g_region ?_ | refine g_block ?_ | refine g_ret ?_ | refine g_return_n ?_ | refine g_exit ?_ | refine g_skip ?_)
  refine g_hideR fun Q_ hQ_ => ?_
  refine o_move ?_
  refine o_move ?_
  refine o_len rfl rfl ?_
  refine o_lss rfl rfl ?_
  refine g_end (G.imp (hQ_ .normal _) ?_)
  clear hQ_ Q_
  try refine g_then ?_
  by_cases hin : i < l.length
  · first | refine g_seq (g_cond_t rfl (by first | rfl | (simp; done) | (simp; omega) | (simp; assumption)) ?_) | refine g_cond_t rfl (by first | rfl | (simp; done) | (simp; omega) | (simp; assumption)) ?_
    obtain ⟨x, hx⟩ : ∃ x, l[i]? = some x := ⟨_, List.getElem?_eq_getElem hin⟩
    by_cases hxt : x = t
    · skip
      repeat (first | refine g_endt ?_ | refine g_end ?_ | refine g_then ?_ | refine g_in_normal ?_ | refine g_then_ret ?_ | refine g_in_ret ?_ | refine g_then_exit ?_ | refine g_in_exit rfl ?_ | refine g_in_exit_ne (by decide) ?_ | refine g_seq ?_ | refine g_region ?_ | refine g_block ?_ | refine g_ret ?_ | refine g_return_n ?_ | refine g_exit ?_ | refine g_skip ?_)
      refine g_hideR fun Q_ hQ_ => ?_
      refine o_move ?_
      refine o_move ?_
      refine o_indexR (ys := l) (i := i) rfl rfl rfl hin rfl rfl ?_
      refine o_loadE0 (ys := l) (v := .int .i64 x) rfl hx rfl ?_
      refine o_move ?_
      refine o_eqlT (t := true) rfl rfl (by simpa using hxt) ?_
      refine g_end (G.imp (hQ_ .normal _) ?_)
      clear hQ_ Q_
      try refine g_then ?_
      first | refine g_seq (g_cond_t rfl (by first | rfl | (simp; done) | (simp; omega) | (simp; assumption)) ?_) | refine g_cond_t rfl (by first | rfl | (simp; done) | (simp; omega) | (simp; assumption)) ?_
      repeat (first | refine g_endt ?_ | refine g_end ?_ | refine g_then ?_ | refine g_in_normal ?_ | refine g_then_ret ?_ | refine g_in_ret ?_ | refine g_then_exit ?_ | refine g_in_exit rfl ?_ | refine g_in_exit_ne (by decide) ?_ | refine g_seq ?_ | refine g_region ?_ | refine g_block ?_ | refine g_ret ?_ | refine g_return_n ?_ | refine g_exit ?_ | refine g_skip ?_)
      refine g_hideR fun Q_ hQ_ => ?_
      refine o_assign ?_
      refine g_end (G.imp (hQ_ .normal _) ?_)
      clear hQ_ Q_
      try refine g_then ?_
      repeat (first | refine g_endt ?_ | refine g_end ?_ | refine g_then ?_ | refine g_in_normal ?_ | refine g_then_ret ?_ | refine g_in_ret ?_ | refine g_then_exit ?_ | refine g_in_exit rfl ?_ | refine g_in_exit_ne (by decide) ?_ | refine g_seq ?_ | refine g_region ?_ | refine g_block ?_ | refine g_ret ?_ | refine g_return_n ?_ | refine g_exit ?_ | refine g_skip ?_)
      have : hasI l t = true := hasI_iff.2 (hxt ▸ List.mem_of_getElem? hx)
      rw [this]
      exact ret1 (K := []) rfl (resT rfl) ⟨rfl, rfl⟩
    · skip
      repeat (first | refine g_endt ?_ | refine g_end ?_ | refine g_then ?_ | refine g_in_normal ?_ | refine g_then_ret ?_ | refine g_in_ret ?_ | refine g_then_exit ?_ | refine g_in_exit rfl ?_ | refine g_in_exit_ne (by decide) ?_ | refine g_seq ?_ | refine g_region ?_ | refine g_block ?_ | refine g_ret ?_ | refine g_return_n ?_ | refine g_exit ?_ | refine g_skip ?_)
      refine g_hideR fun Q_ hQ_ => ?_
      refine o_move ?_
      refine o_move ?_
      refine o_indexR (ys := l) (i := i) rfl rfl rfl hin rfl rfl ?_
      refine o_loadE0 (ys := l) (v := .int .i64 x) rfl hx rfl ?_
      refine o_move ?_
      refine o_eqlT (t := false) rfl rfl (by simpa using hxt) ?_
      refine g_end (G.imp (hQ_ .normal _) ?_)
      clear hQ_ Q_
      try refine g_then ?_
      first | refine g_seq (g_cond_f rfl (by first | rfl | (simp; done) | (simp; omega) | (simp; assumption)) ?_) | refine g_cond_f rfl (by first | rfl | (simp; done) | (simp; omega) | (simp; assumption)) ?_
      repeat (first | refine g_endt ?_ | refine g_end ?_ | refine g_then ?_ | refine g_in_normal ?_ | refine g_then_ret ?_ | refine g_in_ret ?_ | refine g_then_exit ?_ | refine g_in_exit rfl ?_ | refine g_in_exit_ne (by decide) ?_ | refine g_seq ?_ | refine g_region ?_ | refine g_block ?_ | refine g_ret ?_ | refine g_return_n ?_ | refine g_exit ?_ | refine g_skip ?_)
      repeat (first | refine g_endt ?_ | refine g_end ?_ | refine g_then ?_ | refine g_in_normal ?_ | refine g_then_ret ?_ | refine g_in_ret ?_ | refine g_then_exit ?_ | refine g_in_exit rfl ?_ | refine g_in_exit_ne (by decide) ?_ | refine g_seq ?_ | refine g_region ?_ | refine g_block ?_ | refine g_ret ?_ | refine g_return_n ?_ | refine g_exit ?_ | refine g_skip ?_)
      refine g_hideR fun Q_ hQ_ => ?_
      refine o_move ?_
      refine o_add (c := ((i + 1 : Nat) : Int)) rfl rfl (by omega) (by omega) (by omega) ?_
      refine o_assign ?_
      refine g_end (G.imp (hQ_ .normal _) ?_)
      clear hQ_ Q_
      try refine g_then ?_
      repeat (first | refine g_endt ?_ | refine g_end ?_ | refine g_then ?_ | refine g_in_normal ?_ | refine g_then_ret ?_ | refine g_in_ret ?_ | refine g_then_exit ?_ | refine g_in_exit rfl ?_ | refine g_in_exit_ne (by decide) ?_ | refine g_seq ?_ | refine g_region ?_ | refine g_block ?_ | refine g_ret ?_ | refine g_return_n ?_ | refine g_exit ?_ | refine g_skip ?_)
      exact g_meets ⟨i + 1, hin, fun y hy => by
        rw [List.take_add_one, hx] at hy
        rcases List.mem_append.1 hy with hy | hy
        · exact hne y hy
        · simp at hy; subst hy; exact hxt⟩ (by show l.length - (i + 1) < l.length - i; omega) (Sat.mem ⟨rfl, rfl, rfl, trivial⟩)
  · first | refine g_seq (g_cond_f rfl (by simp; omega) ?_) | refine g_cond_f rfl (by simp; omega) ?_
    repeat (first | refine g_endt ?_ | refine g_end ?_ | refine g_then ?_ | refine g_in_normal ?_ | refine g_then_ret ?_ | refine g_in_ret ?_ | refine g_then_exit ?_ | refine g_in_exit rfl ?_ | refine g_in_exit_ne (by decide) ?_ | refine g_seq ?_ | refine g_region ?_ | refine g_block ?_ | refine g_ret ?_ | refine g_return_n ?_ | refine g_exit ?_ | refine g_skip ?_)
    refine g_hideR fun Q_ hQ_ => ?_
    refine o_assign ?_
    refine g_end (G.imp (hQ_ .normal _) ?_)
    clear hQ_ Q_
    try refine g_then ?_
    repeat (first | refine g_endt ?_ | refine g_end ?_ | refine g_then ?_ | refine g_in_normal ?_ | refine g_then_ret ?_ | refine g_in_ret ?_ | refine g_then_exit ?_ | refine g_in_exit rfl ?_ | refine g_in_exit_ne (by decide) ?_ | refine g_seq ?_ | refine g_region ?_ | refine g_block ?_ | refine g_ret ?_ | refine g_return_n ?_ | refine g_exit ?_ | refine g_skip ?_)
    rw [List.take_of_length_le (by omega)] at hne
    have : hasI l t = false := Bool.eq_false_iff.2 fun h => hne t (hasI_iff.1 h) rfl
    rw [this]
    exact ret1 (K := []) rfl (resT rfl) ⟨rfl, rfl⟩
end Go.Proofs.YtonaccfoelgpnaaGreat
/- Is a symbol one of these? -/
namespace Go.Proofs.YtonaccfoelgpnaaGreat
open Go Go.Sl
attribute [local irreducible] Code.wpIn roundPost bodyPostM runL Ret Meets Begin

def inS (gs : List SymD) (s : SymD) : Bool := gs.any fun g => g.beq s
theorem inS_iff {gs : List SymD} {s : SymD} : inS gs s = true ↔ s ∈ gs := by
  unfold inS
  rw [List.any_eq_true]
  exact ⟨fun ⟨g, hg, hb⟩ => by rw [← (SymD.beq_iff _ _).1 hb]; exact hg, fun h => ⟨s, h, (SymD.beq_iff _ _).2 rfl⟩⟩
theorem Has04_spec (A : Option Addr) (n c : Nat) (gs : List SymD) (s : SymD) (hl : gs.length = n) (hm : n ≤ 1000000) : Ctr Tryz.prog 56 [.slice A n c, s.val] [psl encS 3 A gs] (fun v M => v = .bool (inS gs s) ∧ M = []) := by
  refine spec_of Tryz.func56 rfl Tryz.ntmps56 rfl fun w0 F => ?_
  -- ponder/ponderref04.Has
  repeat (first | refine g_endt ?_ | refine g_end ?_ | refine g_then ?_ | refine g_in_normal ?_ | refine g_then_ret ?_ | refine g_in_ret ?_ | refine g_then_exit ?_ | refine g_in_exit rfl ?_ | refine g_in_exit_ne (by decide) ?_ | refine g_seq ?_ | refine g_region ?_ | refine g_block ?_ | refine g_ret ?_ | refine g_return_n ?_ | refine g_exit ?_ | refine g_skip ?_)
  refine o_boxc s.val.cells rfl rfl fun q => ?_
  refine o_assign ?_
  first | refine g_endt ?_ | refine g_end ?_
  repeat (first | refine g_endt ?_ | refine g_end ?_ | refine g_then ?_ | refine g_in_normal ?_ | refine g_then_ret ?_ | refine g_in_ret ?_ | refine g_then_exit ?_ | refine g_in_exit rfl ?_ | refine g_in_exit_ne (by decide) ?_ | refine g_seq ?_ | refine g_region ?_ | refine g_block ?_ | refine g_ret ?_ | refine g_return_n ?_ | refine g_exit ?_ | refine g_skip ?_)
  refine o_assign ?_
  first | refine g_endt ?_ | refine g_end ?_
  repeat (first | refine g_endt ?_ | refine g_end ?_ | refine g_then ?_ | refine g_in_normal ?_ | refine g_then_ret ?_ | refine g_in_ret ?_ | refine g_then_exit ?_ | refine g_in_exit rfl ?_ | refine g_in_exit_ne (by decide) ?_ | refine g_seq ?_ | refine g_region ?_ | refine g_block ?_ | refine g_ret ?_ | refine g_return_n ?_ | refine g_exit ?_ | refine g_skip ?_)
  refine g_loop (σ := {i : Nat // i ≤ n ∧ ∀ (j : Nat) (p : SymD), j < i → gs[j]? = some p → p.beq s = false}) (S := fun i => [(0, .slice A n c), (3, .pointer (some ⟨q, 0, none⟩)), (5, .int .i64 (i.1 : Int))]) (H := fun _ => [psl encS 3 A gs, cellsB q s.val.cells 39]) (μ := fun i => n - i.1)
    (s0 := ⟨0, Nat.zero_le _, fun j y h => absurd h (Nat.not_lt_zero j)⟩) (Sat.mem ⟨rfl, rfl, rfl, trivial⟩) ?_
  rintro ⟨i, hi, hlow⟩ ρ'
  dsimp only at hi hlow ⊢
  repeat (first | refine g_endt ?_ | refine g_end ?_ | refine g_then ?_ | refine g_in_normal ?_ | refine g_then_ret ?_ | refine g_in_ret ?_ | refine g_then_exit ?_ | refine g_in_exit rfl ?_ | refine g_in_exit_ne (by decide) ?_ | refine g_seq ?_ | refine g_region ?_ | refine g_block ?_ | refine g_ret ?_ | refine g_return_n ?_ | refine g_exit ?_ | refine g_skip ?_)
  refine o_move ?_
  refine o_move ?_
  refine o_len rfl rfl ?_
  refine o_lss rfl rfl ?_
  first | refine g_endt ?_ | refine g_end ?_
  by_cases h : i < n
  · first | refine g_seq (g_cond_t rfl (by first | rfl | (simp; done) | (simp; omega) | (simp; assumption)) ?_) | refine g_cond_t rfl (by first | rfl | (simp; done) | (simp; omega) | (simp; assumption)) ?_
    have hi' : i < gs.length := by omega
    obtain ⟨p, hp⟩ : ∃ p, gs[i]? = some p := ⟨_, List.getElem?_eq_getElem hi'⟩
    repeat (first | refine g_endt ?_ | refine g_end ?_ | refine g_then ?_ | refine g_in_normal ?_ | refine g_then_ret ?_ | refine g_in_ret ?_ | refine g_then_exit ?_ | refine g_in_exit rfl ?_ | refine g_in_exit_ne (by decide) ?_ | refine g_seq ?_ | refine g_region ?_ | refine g_block ?_ | refine g_ret ?_ | refine g_return_n ?_ | refine g_exit ?_ | refine g_skip ?_)
    refine g_draw [] [0,1,2,3,4,5] [psl encS 3 A gs, cellsB q s.val.cells 39] mixed rfl ?_
    refine ob_q rfl rfl ⟨_, fun X Q h => o_move (g_end (h _ _ ⟨rfl, rfl⟩)), ?_⟩
    refine ob_q rfl rfl ⟨_, fun X Q h => o_move (g_end (h _ _ ⟨rfl, rfl⟩)), ?_⟩
    refine ob_q rfl rfl ⟨_, fun X Q h => o_indexR (ys := gs) (i := i) rfl rfl rfl hi' hl rfl (g_end (h _ _ ⟨rfl, rfl⟩)), ?_⟩
    refine ob_q rfl rfl ⟨_, fun X Q h => o_loadE (ys := gs) rfl rfl hp (g_end (h _ _ ⟨rfl, rfl⟩)), ?_⟩
    refine ob_q rfl rfl ⟨_, fun X Q h => o_loadN (v := s.val) rfl rfl rfl (g_end (h _ _ ⟨rfl, rfl⟩)), ?_⟩
    refine ob_q rfl rfl ⟨_, fun X Q h => o_eqty rfl rfl (eq_sym p s) (g_end (h _ _ ⟨rfl, rfl⟩)), ?_⟩
    refine ob_nil ?_
    cases hb : p.beq s with
    | true =>
      first | refine g_seq (g_cond_t rfl (by first | rfl | (simp; done) | (simp; omega) | (simp; assumption)) ?_) | refine g_cond_t rfl (by first | rfl | (simp; done) | (simp; omega) | (simp; assumption)) ?_
      repeat (first | refine g_endt ?_ | refine g_end ?_ | refine g_then ?_ | refine g_in_normal ?_ | refine g_then_ret ?_ | refine g_in_ret ?_ | refine g_then_exit ?_ | refine g_in_exit rfl ?_ | refine g_in_exit_ne (by decide) ?_ | refine g_seq ?_ | refine g_region ?_ | refine g_block ?_ | refine g_ret ?_ | refine g_return_n ?_ | refine g_exit ?_ | refine g_skip ?_)
      refine o_assign ?_
      first | refine g_endt ?_ | refine g_end ?_
      repeat (first | refine g_endt ?_ | refine g_end ?_ | refine g_then ?_ | refine g_in_normal ?_ | refine g_then_ret ?_ | refine g_in_ret ?_ | refine g_then_exit ?_ | refine g_in_exit rfl ?_ | refine g_in_exit_ne (by decide) ?_ | refine g_seq ?_ | refine g_region ?_ | refine g_block ?_ | refine g_ret ?_ | refine g_return_n ?_ | refine g_exit ?_ | refine g_skip ?_)
      exact ret1 (K := []) rfl (resT (v := .bool true) rfl) ⟨by rw [show inS gs s = true from List.any_eq_true.2 ⟨p, List.mem_of_getElem? hp, hb⟩], rfl⟩
    | false =>
      first | refine g_seq (g_cond_f rfl (by first | rfl | (simp; done) | (simp; omega) | (simp; assumption)) ?_) | refine g_cond_f rfl (by first | rfl | (simp; done) | (simp; omega) | (simp; assumption)) ?_
      repeat (first | refine g_endt ?_ | refine g_end ?_ | refine g_then ?_ | refine g_in_normal ?_ | refine g_then_ret ?_ | refine g_in_ret ?_ | refine g_then_exit ?_ | refine g_in_exit rfl ?_ | refine g_in_exit_ne (by decide) ?_ | refine g_seq ?_ | refine g_region ?_ | refine g_block ?_ | refine g_ret ?_ | refine g_return_n ?_ | refine g_exit ?_ | refine g_skip ?_)
      refine o_move ?_
      refine o_add (c := ((i + 1 : Nat) : Int)) rfl rfl (by omega) (by omega) (by omega) ?_
      refine o_assign ?_
      first | refine g_endt ?_ | refine g_end ?_
      repeat (first | refine g_endt ?_ | refine g_end ?_ | refine g_then ?_ | refine g_in_normal ?_ | refine g_then_ret ?_ | refine g_in_ret ?_ | refine g_then_exit ?_ | refine g_in_exit rfl ?_ | refine g_in_exit_ne (by decide) ?_ | refine g_seq ?_ | refine g_region ?_ | refine g_block ?_ | refine g_ret ?_ | refine g_return_n ?_ | refine g_exit ?_ | refine g_skip ?_)
      have hn : ∀ (j : Nat) (z : SymD), j < i + 1 → gs[j]? = some z → z.beq s = false := fun j z hj hz => by
        by_cases e : j = i
        · subst e; rw [hp] at hz; cases hz; exact hb
        · exact hlow j z (by omega) hz
      exact g_meets (⟨i + 1, h, hn⟩) (by first | exact trivial | (dsimp only; omega)) (Sat.mem (by repeat (first | exact trivial | refine And.intro rfl ?_)))
  · first | refine g_seq (g_cond_f rfl (by simp; omega) ?_) | refine g_cond_f rfl (by simp; omega) ?_
    repeat (first | refine g_endt ?_ | refine g_end ?_ | refine g_then ?_ | refine g_in_normal ?_ | refine g_then_ret ?_ | refine g_in_ret ?_ | refine g_then_exit ?_ | refine g_in_exit rfl ?_ | refine g_in_exit_ne (by decide) ?_ | refine g_seq ?_ | refine g_region ?_ | refine g_block ?_ | refine g_ret ?_ | refine g_return_n ?_ | refine g_exit ?_ | refine g_skip ?_)
    refine o_assign ?_
    first | refine g_endt ?_ | refine g_end ?_
    repeat (first | refine g_endt ?_ | refine g_end ?_ | refine g_then ?_ | refine g_in_normal ?_ | refine g_then_ret ?_ | refine g_in_ret ?_ | refine g_then_exit ?_ | refine g_in_exit rfl ?_ | refine g_in_exit_ne (by decide) ?_ | refine g_seq ?_ | refine g_region ?_ | refine g_block ?_ | refine g_ret ?_ | refine g_return_n ?_ | refine g_exit ?_ | refine g_skip ?_)
    exact ret1 (K := []) rfl (resT (v := .bool false) rfl) ⟨by
      rw [show inS gs s = false from List.any_eq_false.2 fun g hg => ?_]
      obtain ⟨j, hj⟩ := List.mem_iff_getElem?.1 hg
      rw [hlow j g (by have := (List.getElem?_eq_some_iff.1 hj).1; omega) hj]; simp, rfl⟩
end Go.Proofs.YtonaccfoelgpnaaGreat
/- The document's preference memory: what is left of it. -/
namespace Go.Proofs.YtonaccfoelgpnaaGreat
open Go Go.Sl
attribute [local irreducible] Exit.then Exit.inBlock Code.wpIn roundPost bodyPostM runL Ret Meets MeetsD Begin

def keepG (ids : List SymD) (p : PrefD) : Bool := !inS ids p.id
theorem left15_spec (r : Nat) (room : Int) (a : Option Addr) (n c0 : Nat) (S : Option Addr) (k s : Nat) (hn : n ≤ 10000) (hk : k ≤ n) : Ctr Tryz.prog 53 [.pointer (some ⟨r, 0, none⟩), .slice S k s] [rC r room a n c0]
    (fun v M => v = .int .i64 ((n - k : Nat) : Int) ∧ M = [rC r room S k s]) := by
  refine spec_of Tryz.func53 rfl Tryz.ntmps53 rfl fun w0 F => ?_
  -- hide
  -- (*ponder/ponderref15.Memory).left
  repeat (first | refine g_endt ?_ | refine g_end ?_ | refine g_then ?_ | refine g_in_normal ?_ | refine g_then_ret ?_ | refine g_in_ret ?_ | refine g_then_exit ?_ | refine g_in_exit rfl ?_ | refine g_in_exit_ne (by decide) ?_ | refine g_seq ?_ | refine g_region ?_ | refine g_block ?_ | refine g_ret ?_ | refine g_return_n ?_ | refine g_exit ?_ | refine g_skip ?_)
  refine g_hideR fun Q_ hQ_ => ?_
  refine o_assign ?_
  refine g_end (G.imp (hQ_ .normal _) ?_)
  clear hQ_ Q_
  try refine g_then ?_
  repeat (first | refine g_endt ?_ | refine g_end ?_ | refine g_then ?_ | refine g_in_normal ?_ | refine g_then_ret ?_ | refine g_in_ret ?_ | refine g_then_exit ?_ | refine g_in_exit rfl ?_ | refine g_in_exit_ne (by decide) ?_ | refine g_seq ?_ | refine g_region ?_ | refine g_block ?_ | refine g_ret ?_ | refine g_return_n ?_ | refine g_exit ?_ | refine g_skip ?_)
  refine g_hideR fun Q_ hQ_ => ?_
  refine o_move ?_
  refine o_nil rfl ?_
  first | refine o_field rfl ?_ | refine o_fieldR rfl (by omega) ?_
  refine o_load1 (v := .slice a n c0) rfl rfl ?_
  refine o_len rfl rfl ?_
  refine o_move ?_
  refine o_len rfl rfl ?_
  refine o_sub (c := ((n - k : Nat) : Int)) rfl rfl (by omega) (by omega) (by omega) ?_
  refine o_assign ?_
  refine g_end (G.imp (hQ_ .normal _) ?_)
  clear hQ_ Q_
  try refine g_then ?_
  repeat (first | refine g_endt ?_ | refine g_end ?_ | refine g_then ?_ | refine g_in_normal ?_ | refine g_then_ret ?_ | refine g_in_ret ?_ | refine g_then_exit ?_ | refine g_in_exit rfl ?_ | refine g_in_exit_ne (by decide) ?_ | refine g_seq ?_ | refine g_region ?_ | refine g_block ?_ | refine g_ret ?_ | refine g_return_n ?_ | refine g_exit ?_ | refine g_skip ?_)
  refine g_hideR fun Q_ hQ_ => ?_
  refine o_move ?_
  refine o_move ?_
  refine o_nil rfl ?_
  first | refine o_field rfl ?_ | refine o_fieldR rfl (by omega) ?_
  refine o_store (v := .slice S k s) rfl rfl rfl rfl rfl ?_
  refine g_end (G.imp (hQ_ .normal _) ?_)
  clear hQ_ Q_
  try refine g_then ?_
  refine G.norm r #[.int .i64 room, .slice S k s] rfl ?_
  repeat (first | refine g_endt ?_ | refine g_end ?_ | refine g_then ?_ | refine g_in_normal ?_ | refine g_then_ret ?_ | refine g_in_ret ?_ | refine g_then_exit ?_ | refine g_in_exit rfl ?_ | refine g_in_exit_ne (by decide) ?_ | refine g_seq ?_ | refine g_region ?_ | refine g_block ?_ | refine g_ret ?_ | refine g_return_n ?_ | refine g_exit ?_ | refine g_skip ?_)
  refine g_hideR fun Q_ hQ_ => ?_
  refine o_move ?_
  refine o_assign ?_
  refine g_end (G.imp (hQ_ .normal _) ?_)
  clear hQ_ Q_
  try refine g_then ?_
  repeat (first | refine g_endt ?_ | refine g_end ?_ | refine g_then ?_ | refine g_in_normal ?_ | refine g_then_ret ?_ | refine g_in_ret ?_ | refine g_then_exit ?_ | refine g_in_exit rfl ?_ | refine g_in_exit_ne (by decide) ?_ | refine g_seq ?_ | refine g_region ?_ | refine g_block ?_ | refine g_ret ?_ | refine g_return_n ?_ | refine g_exit ?_ | refine g_skip ?_)
  exact ret1 (K := [rC r room S k s]) rfl (resT rfl) ⟨rfl, rfl⟩
set_option maxHeartbeats 2000000 in
theorem CutR15_spec (r : Nat) (room : Int) (ps : List PrefD) (hp : ps.length ≤ 10000) (lv : Int) {v0 : Int} {os : List PrefD} (h : goneR ps (cutG lv) = os) (h2 : ((ps.length - os.length : Nat) : Int) = v0) :
    Ctr Tryz.prog 26 [.pointer (some ⟨r, 0, none⟩), .int .i64 lv] [RefM r room ps] (fun v M => v = .int .i64 v0 ∧ M = [RefM r room os]) := by
  refine spec_of Tryz.func26 rfl Tryz.ntmps26 rfl fun w0 F => ?_
  -- hide
  -- (*ponder/ponderref15.Memory).Cut
  subst h; subst h2
  refine openRM r room ps fun a c0 => ?_
  repeat (first | refine g_endt ?_ | refine g_end ?_ | refine g_then ?_ | refine g_in_normal ?_ | refine g_then_ret ?_ | refine g_in_ret ?_ | refine g_then_exit ?_ | refine g_in_exit rfl ?_ | refine g_in_exit_ne (by decide) ?_ | refine g_seq ?_ | refine g_region ?_ | refine g_block ?_ | refine g_ret ?_ | refine g_return_n ?_ | refine g_exit ?_ | refine g_skip ?_)
  refine g_hideR fun Q_ hQ_ => ?_
  refine o_assign ?_
  refine g_end (G.imp (hQ_ .normal _) ?_)
  clear hQ_ Q_
  try refine g_then ?_
  repeat (first | refine g_endt ?_ | refine g_end ?_ | refine g_then ?_ | refine g_in_normal ?_ | refine g_then_ret ?_ | refine g_in_ret ?_ | refine g_then_exit ?_ | refine g_in_exit rfl ?_ | refine g_in_exit_ne (by decide) ?_ | refine g_seq ?_ | refine g_region ?_ | refine g_block ?_ | refine g_ret ?_ | refine g_return_n ?_ | refine g_exit ?_ | refine g_skip ?_)
  refine g_hideR fun Q_ hQ_ => ?_
  refine o_assign ?_
  refine g_end (G.imp (hQ_ .normal _) ?_)
  clear hQ_ Q_
  try refine g_then ?_
  refine G.nil_slice (α := PrefD) 41 encP 16 ?_
  repeat (first | refine g_endt ?_ | refine g_end ?_ | refine g_then ?_ | refine g_in_normal ?_ | refine g_then_ret ?_ | refine g_in_ret ?_ | refine g_then_exit ?_ | refine g_in_exit rfl ?_ | refine g_in_exit_ne (by decide) ?_ | refine g_seq ?_ | refine g_region ?_ | refine g_block ?_ | refine g_ret ?_ | refine g_return_n ?_ | refine g_exit ?_ | refine g_skip ?_)
  refine g_hideR fun Q_ hQ_ => ?_
  refine o_assign ?_
  refine g_end (G.imp (hQ_ .normal _) ?_)
  clear hQ_ Q_
  try refine g_then ?_
  repeat (first | refine g_endt ?_ | refine g_end ?_ | refine g_then ?_ | refine g_in_normal ?_ | refine g_then_ret ?_ | refine g_in_ret ?_ | refine g_then_exit ?_ | refine g_in_exit rfl ?_ | refine g_in_exit_ne (by decide) ?_ | refine g_seq ?_ | refine g_region ?_ | refine g_block ?_ | refine g_ret ?_ | refine g_return_n ?_ | refine g_exit ?_ | refine g_skip ?_)
  refine g_loop (σ := {t : Nat × Option Addr × Nat // t.1 ≤ ps.length}) (S := fun t => [(0, .pointer (some ⟨r, 0, none⟩)), (1, .int .i64 lv), (5, .slice t.1.2.1 (goneR (ps.take t.1.1) (cutG lv)).length t.1.2.2), (6, .int .i64 (t.1.1 : Int))])
    (H := fun t => [rC r room a ps.length c0, psl encP 16 a ps, oP t.1.2.1 t.1.2.2 (goneR (ps.take t.1.1) (cutG lv))]) (μ := fun t => ps.length - t.1.1) (s0 := ⟨(0, none, 0), Nat.zero_le _⟩) (Sat.mem ⟨rfl, rfl, rfl, rfl, trivial⟩) (t := (inferInstance : Take _ [rC r room a ps.length c0, psl encP 16 a ps, oP none 0 ([] : List PrefD)] _)) ?_
  rintro ⟨⟨i, S, s⟩, hi⟩ ρ2
  dsimp only at hi ⊢
  have hol : (goneR (ps.take i) (cutG lv)).length ≤ i := Nat.le_trans (List.length_filter_le _ _) (by simp; omega)
  repeat (first | refine g_endt ?_ | refine g_end ?_ | refine g_then ?_ | refine g_in_normal ?_ | refine g_then_ret ?_ | refine g_in_ret ?_ | refine g_then_exit ?_ | refine g_in_exit rfl ?_ | refine g_in_exit_ne (by decide) ?_ | refine g_seq ?_ | refine g_region ?_ | refine g_block ?_ | refine g_ret ?_ | refine g_return_n ?_ | refine g_exit ?_ | refine g_skip ?_)
  refine g_hideR fun Q_ hQ_ => ?_
  refine o_move ?_
  refine o_move ?_
  refine o_nil rfl ?_
  first | refine o_field rfl ?_ | refine o_fieldR rfl (by omega) ?_
  refine o_load1 (v := .slice a ps.length c0) rfl rfl ?_
  refine o_len rfl rfl ?_
  refine o_lss rfl rfl ?_
  refine g_end (G.imp (hQ_ .normal _) ?_)
  clear hQ_ Q_
  try refine g_then ?_
  by_cases hin : i < ps.length
  · first | refine g_seq (g_cond_t rfl (by first | rfl | (simp; done) | (simp; omega) | (simp; assumption)) ?_) | refine g_cond_t rfl (by first | rfl | (simp; done) | (simp; omega) | (simp; assumption)) ?_
    obtain ⟨q, hq⟩ : ∃ q, ps[i]? = some q := ⟨_, List.getElem?_eq_getElem hin⟩
    have hft : goneR (ps.take (i + 1)) (cutG lv) = goneR (ps.take i) (cutG lv) ++ if (!(cutG lv) q) = true then [q] else [] := filter_take (fun p => !(cutG lv) p) hq
    generalize goneR (ps.take i) (cutG lv) = os at hol hft ⊢
    repeat (first | refine g_endt ?_ | refine g_end ?_ | refine g_then ?_ | refine g_in_normal ?_ | refine g_then_ret ?_ | refine g_in_ret ?_ | refine g_then_exit ?_ | refine g_in_exit rfl ?_ | refine g_in_exit_ne (by decide) ?_ | refine g_seq ?_ | refine g_region ?_ | refine g_block ?_ | refine g_ret ?_ | refine g_return_n ?_ | refine g_exit ?_ | refine g_skip ?_)
    repeat (first | refine g_endt ?_ | refine g_end ?_ | refine g_then ?_ | refine g_in_normal ?_ | refine g_then_ret ?_ | refine g_in_ret ?_ | refine g_then_exit ?_ | refine g_in_exit rfl ?_ | refine g_in_exit_ne (by decide) ?_ | refine g_seq ?_ | refine g_region ?_ | refine g_block ?_ | refine g_ret ?_ | refine g_return_n ?_ | refine g_exit ?_ | refine g_skip ?_)
    refine g_hideR fun Q_ hQ_ => ?_
    refine o_move ?_
    refine o_nil rfl ?_
    first | refine o_field rfl ?_ | refine o_fieldR rfl (by omega) ?_
    refine o_load1 (v := .slice a ps.length c0) rfl rfl ?_
    refine o_move ?_
    refine o_indexR (ys := ps) (i := i) rfl rfl rfl hin rfl rfl ?_
    refine o_fieldR rfl (by omega) ?_
    refine o_loadE1 (ys := ps) (v := .int .i64 q.level) rfl hq rfl ?_
    refine o_move ?_
    refine o_lss rfl rfl ?_
    refine g_end (G.imp (hQ_ .normal _) ?_)
    clear hQ_ Q_
    try refine g_then ?_
    cases hg : (cutG lv) q with
    | false =>
      rw [if_pos (by rw [hg]; rfl)] at hft
      first | refine g_seq (g_cond_t rfl (by unfold cutG at hg; simp at hg ⊢; omega) ?_) | refine g_cond_t rfl (by unfold cutG at hg; simp at hg ⊢; omega) ?_
      repeat (first | refine g_endt ?_ | refine g_end ?_ | refine g_then ?_ | refine g_in_normal ?_ | refine g_then_ret ?_ | refine g_in_ret ?_ | refine g_then_exit ?_ | refine g_in_exit rfl ?_ | refine g_in_exit_ne (by decide) ?_ | refine g_seq ?_ | refine g_region ?_ | refine g_block ?_ | refine g_ret ?_ | refine g_return_n ?_ | refine g_exit ?_ | refine g_skip ?_)
      refine g_hideR fun Q_ hQ_ => ?_
      refine o_move ?_
      refine o_move ?_
      refine o_nil rfl ?_
      first | refine o_field rfl ?_ | refine o_fieldR rfl (by omega) ?_
      refine o_load1 (v := .slice a ps.length c0) rfl rfl ?_
      refine o_move ?_
      refine o_indexR (ys := ps) (i := i) rfl rfl rfl hin rfl rfl ?_
      refine o_loadE (ys := ps) rfl rfl hq ?_
      refine o_litP (e := 41) encP [q] (q).val.cells (fun w => by kernel_rfl) (by simp [encP]) (by simp [maxLen]) fun _ => ?_
      refine o_append (xs := os) (ys := [q]) (by first | rfl | (simp only [List.length_map, List.length_take, List.length_append]; first | rfl | (congr 1; omega))) rfl rfl rfl rfl (fun _ => .inr trivial) (by simp [maxLen]; omega) (by simp; omega) fun S2 s2 => ?_
      refine o_assign ?_
      refine g_end (G.imp (hQ_ .normal _) ?_)
      clear hQ_ Q_
      try refine g_then ?_
      repeat (first | refine g_endt ?_ | refine g_end ?_ | refine g_then ?_ | refine g_in_normal ?_ | refine g_then_ret ?_ | refine g_in_ret ?_ | refine g_then_exit ?_ | refine g_in_exit rfl ?_ | refine g_in_exit_ne (by decide) ?_ | refine g_seq ?_ | refine g_region ?_ | refine g_block ?_ | refine g_ret ?_ | refine g_return_n ?_ | refine g_exit ?_ | refine g_skip ?_)
      repeat (first | refine g_endt ?_ | refine g_end ?_ | refine g_then ?_ | refine g_in_normal ?_ | refine g_then_ret ?_ | refine g_in_ret ?_ | refine g_then_exit ?_ | refine g_in_exit rfl ?_ | refine g_in_exit_ne (by decide) ?_ | refine g_seq ?_ | refine g_region ?_ | refine g_block ?_ | refine g_ret ?_ | refine g_return_n ?_ | refine g_exit ?_ | refine g_skip ?_)
      refine g_hideR fun Q_ hQ_ => ?_
      refine o_move ?_
      refine o_add (c := ((i + 1 : Nat) : Int)) rfl rfl (by omega) (by omega) (by omega) ?_
      refine o_assign ?_
      refine g_end (G.imp (hQ_ .normal _) ?_)
      clear hQ_ Q_
      try refine g_then ?_
      repeat (first | refine g_endt ?_ | refine g_end ?_ | refine g_then ?_ | refine g_in_normal ?_ | refine g_then_ret ?_ | refine g_in_ret ?_ | refine g_then_exit ?_ | refine g_in_exit rfl ?_ | refine g_in_exit_ne (by decide) ?_ | refine g_seq ?_ | refine g_region ?_ | refine g_block ?_ | refine g_ret ?_ | refine g_return_n ?_ | refine g_exit ?_ | refine g_skip ?_)
      exact g_meets ⟨(i + 1, S2, s2), hin⟩ (by show ps.length - (i + 1) < ps.length - i; omega) (Sat.mem ⟨rfl, rfl, by rw [hft, List.length_append]; rfl, rfl, trivial⟩) (t := by
        show Take _ [rC r room a ps.length c0, psl encP 16 a ps, oP S2 s2 (goneR (ps.take (i + 1)) (cutG lv))] _
        rw [hft]; infer_instance)
    | true =>
      rw [if_neg (by rw [hg]; decide), List.append_nil] at hft
      first | refine g_seq (g_cond_f rfl (by unfold cutG at hg; simp at hg ⊢; omega) ?_) | refine g_cond_f rfl (by unfold cutG at hg; simp at hg ⊢; omega) ?_
      repeat (first | refine g_endt ?_ | refine g_end ?_ | refine g_then ?_ | refine g_in_normal ?_ | refine g_then_ret ?_ | refine g_in_ret ?_ | refine g_then_exit ?_ | refine g_in_exit rfl ?_ | refine g_in_exit_ne (by decide) ?_ | refine g_seq ?_ | refine g_region ?_ | refine g_block ?_ | refine g_ret ?_ | refine g_return_n ?_ | refine g_exit ?_ | refine g_skip ?_)
      repeat (first | refine g_endt ?_ | refine g_end ?_ | refine g_then ?_ | refine g_in_normal ?_ | refine g_then_ret ?_ | refine g_in_ret ?_ | refine g_then_exit ?_ | refine g_in_exit rfl ?_ | refine g_in_exit_ne (by decide) ?_ | refine g_seq ?_ | refine g_region ?_ | refine g_block ?_ | refine g_ret ?_ | refine g_return_n ?_ | refine g_exit ?_ | refine g_skip ?_)
      refine g_hideR fun Q_ hQ_ => ?_
      refine o_move ?_
      refine o_add (c := ((i + 1 : Nat) : Int)) rfl rfl (by omega) (by omega) (by omega) ?_
      refine o_assign ?_
      refine g_end (G.imp (hQ_ .normal _) ?_)
      clear hQ_ Q_
      try refine g_then ?_
      repeat (first | refine g_endt ?_ | refine g_end ?_ | refine g_then ?_ | refine g_in_normal ?_ | refine g_then_ret ?_ | refine g_in_ret ?_ | refine g_then_exit ?_ | refine g_in_exit rfl ?_ | refine g_in_exit_ne (by decide) ?_ | refine g_seq ?_ | refine g_region ?_ | refine g_block ?_ | refine g_ret ?_ | refine g_return_n ?_ | refine g_exit ?_ | refine g_skip ?_)
      exact g_meets ⟨(i + 1, S, s), hin⟩ (by show ps.length - (i + 1) < ps.length - i; omega) (Sat.mem ⟨rfl, rfl, by rw [hft]; rfl, rfl, trivial⟩) (t := by
        show Take _ [rC r room a ps.length c0, psl encP 16 a ps, oP S s (goneR (ps.take (i + 1)) (cutG lv))] _
        rw [hft]; infer_instance)
  first | refine g_seq (g_cond_f rfl (by simp; omega) ?_) | refine g_cond_f rfl (by simp; omega) ?_
  rw [List.take_of_length_le (by omega)] at hol ⊢
  refine G.bring [oP S s (goneR ps (cutG lv))] (G.frz ?_)
  have hle : (goneR ps (cutG lv)).length ≤ ps.length := List.length_filter_le _ _
  repeat (first | refine g_endt ?_ | refine g_end ?_ | refine g_then ?_ | refine g_in_normal ?_ | refine g_then_ret ?_ | refine g_in_ret ?_ | refine g_then_exit ?_ | refine g_in_exit rfl ?_ | refine g_in_exit_ne (by decide) ?_ | refine g_seq ?_ | refine g_region ?_ | refine g_block ?_ | refine g_ret ?_ | refine g_return_n ?_ | refine g_exit ?_ | refine g_skip ?_)
  refine g_hideR fun Q_ hQ_ => ?_
  refine o_move ?_
  refine o_move ?_
  refine o_call (left15_spec r room a ps.length c0 S (goneR ps (cutG lv)).length s (by omega) hle) rfl rfl ?_
  rintro _ _ ⟨rfl, rfl⟩
  refine o_assign ?_
  refine g_end (G.imp (hQ_ .normal _) ?_)
  clear hQ_ Q_
  try refine g_then ?_
  refine shutRM r room (goneR ps (cutG lv)) S s rfl ?_
  repeat (first | refine g_endt ?_ | refine g_end ?_ | refine g_then ?_ | refine g_in_normal ?_ | refine g_then_ret ?_ | refine g_in_ret ?_ | refine g_then_exit ?_ | refine g_in_exit rfl ?_ | refine g_in_exit_ne (by decide) ?_ | refine g_seq ?_ | refine g_region ?_ | refine g_block ?_ | refine g_ret ?_ | refine g_return_n ?_ | refine g_exit ?_ | refine g_skip ?_)
  exact ret1 (K := [RefM r room (goneR ps (cutG lv))]) rfl (resT rfl) ⟨rfl, rfl⟩
set_option maxHeartbeats 2000000 in
theorem KeepR15_spec (r : Nat) (room : Int) (ps : List PrefD) (hp : ps.length ≤ 10000) (A : Option Addr) (n c : Nat) (ids : List SymD) (hl : ids.length = n) (hn : n ≤ 10000) {v0 : Int} {os : List PrefD} (h : goneR ps (keepG ids) = os) (h2 : ((ps.length - os.length : Nat) : Int) = v0) :
    Ctr Tryz.prog 29 [.pointer (some ⟨r, 0, none⟩), .slice A n c] [RefM r room ps, psl encS 3 A ids] (fun v M => v = .int .i64 v0 ∧ M = [RefM r room os]) := by
  refine spec_of Tryz.func29 rfl Tryz.ntmps29 rfl fun w0 F => ?_
  -- hide
  -- (*ponder/ponderref15.Memory).Keep
  subst h; subst h2
  refine openRM r room ps fun a c0 => ?_
  repeat (first | refine g_endt ?_ | refine g_end ?_ | refine g_then ?_ | refine g_in_normal ?_ | refine g_then_ret ?_ | refine g_in_ret ?_ | refine g_then_exit ?_ | refine g_in_exit rfl ?_ | refine g_in_exit_ne (by decide) ?_ | refine g_seq ?_ | refine g_region ?_ | refine g_block ?_ | refine g_ret ?_ | refine g_return_n ?_ | refine g_exit ?_ | refine g_skip ?_)
  refine g_hideR fun Q_ hQ_ => ?_
  refine o_assign ?_
  refine g_end (G.imp (hQ_ .normal _) ?_)
  clear hQ_ Q_
  try refine g_then ?_
  repeat (first | refine g_endt ?_ | refine g_end ?_ | refine g_then ?_ | refine g_in_normal ?_ | refine g_then_ret ?_ | refine g_in_ret ?_ | refine g_then_exit ?_ | refine g_in_exit rfl ?_ | refine g_in_exit_ne (by decide) ?_ | refine g_seq ?_ | refine g_region ?_ | refine g_block ?_ | refine g_ret ?_ | refine g_return_n ?_ | refine g_exit ?_ | refine g_skip ?_)
  refine g_hideR fun Q_ hQ_ => ?_
  refine o_assign ?_
  refine g_end (G.imp (hQ_ .normal _) ?_)
  clear hQ_ Q_
  try refine g_then ?_
  refine G.nil_slice (α := PrefD) 41 encP 16 ?_
  repeat (first | refine g_endt ?_ | refine g_end ?_ | refine g_then ?_ | refine g_in_normal ?_ | refine g_then_ret ?_ | refine g_in_ret ?_ | refine g_then_exit ?_ | refine g_in_exit rfl ?_ | refine g_in_exit_ne (by decide) ?_ | refine g_seq ?_ | refine g_region ?_ | refine g_block ?_ | refine g_ret ?_ | refine g_return_n ?_ | refine g_exit ?_ | refine g_skip ?_)
  refine g_hideR fun Q_ hQ_ => ?_
  refine o_assign ?_
  refine g_end (G.imp (hQ_ .normal _) ?_)
  clear hQ_ Q_
  try refine g_then ?_
  repeat (first | refine g_endt ?_ | refine g_end ?_ | refine g_then ?_ | refine g_in_normal ?_ | refine g_then_ret ?_ | refine g_in_ret ?_ | refine g_then_exit ?_ | refine g_in_exit rfl ?_ | refine g_in_exit_ne (by decide) ?_ | refine g_seq ?_ | refine g_region ?_ | refine g_block ?_ | refine g_ret ?_ | refine g_return_n ?_ | refine g_exit ?_ | refine g_skip ?_)
  refine g_loop (σ := {t : Nat × Option Addr × Nat // t.1 ≤ ps.length}) (S := fun t => [(0, .pointer (some ⟨r, 0, none⟩)), (1, .slice A n c), (5, .slice t.1.2.1 (goneR (ps.take t.1.1) (keepG ids)).length t.1.2.2), (6, .int .i64 (t.1.1 : Int))])
    (H := fun t => [rC r room a ps.length c0, psl encP 16 a ps, psl encS 3 A ids, oP t.1.2.1 t.1.2.2 (goneR (ps.take t.1.1) (keepG ids))]) (μ := fun t => ps.length - t.1.1) (s0 := ⟨(0, none, 0), Nat.zero_le _⟩) (Sat.mem ⟨rfl, rfl, rfl, rfl, trivial⟩) (t := (inferInstance : Take _ [rC r room a ps.length c0, psl encP 16 a ps, psl encS 3 A ids, oP none 0 ([] : List PrefD)] _)) ?_
  rintro ⟨⟨i, S, s⟩, hi⟩ ρ2
  dsimp only at hi ⊢
  have hol : (goneR (ps.take i) (keepG ids)).length ≤ i := Nat.le_trans (List.length_filter_le _ _) (by simp; omega)
  repeat (first | refine g_endt ?_ | refine g_end ?_ | refine g_then ?_ | refine g_in_normal ?_ | refine g_then_ret ?_ | refine g_in_ret ?_ | refine g_then_exit ?_ | refine g_in_exit rfl ?_ | refine g_in_exit_ne (by decide) ?_ | refine g_seq ?_ | refine g_region ?_ | refine g_block ?_ | refine g_ret ?_ | refine g_return_n ?_ | refine g_exit ?_ | refine g_skip ?_)
  refine g_hideR fun Q_ hQ_ => ?_
  refine o_move ?_
  refine o_move ?_
  refine o_nil rfl ?_
  first | refine o_field rfl ?_ | refine o_fieldR rfl (by omega) ?_
  refine o_load1 (v := .slice a ps.length c0) rfl rfl ?_
  refine o_len rfl rfl ?_
  refine o_lss rfl rfl ?_
  refine g_end (G.imp (hQ_ .normal _) ?_)
  clear hQ_ Q_
  try refine g_then ?_
  by_cases hin : i < ps.length
  · first | refine g_seq (g_cond_t rfl (by first | rfl | (simp; done) | (simp; omega) | (simp; assumption)) ?_) | refine g_cond_t rfl (by first | rfl | (simp; done) | (simp; omega) | (simp; assumption)) ?_
    obtain ⟨q, hq⟩ : ∃ q, ps[i]? = some q := ⟨_, List.getElem?_eq_getElem hin⟩
    have hft : goneR (ps.take (i + 1)) (keepG ids) = goneR (ps.take i) (keepG ids) ++ if (!(keepG ids) q) = true then [q] else [] := filter_take (fun p => !(keepG ids) p) hq
    generalize goneR (ps.take i) (keepG ids) = os at hol hft ⊢
    repeat (first | refine g_endt ?_ | refine g_end ?_ | refine g_then ?_ | refine g_in_normal ?_ | refine g_then_ret ?_ | refine g_in_ret ?_ | refine g_then_exit ?_ | refine g_in_exit rfl ?_ | refine g_in_exit_ne (by decide) ?_ | refine g_seq ?_ | refine g_region ?_ | refine g_block ?_ | refine g_ret ?_ | refine g_return_n ?_ | refine g_exit ?_ | refine g_skip ?_)
    repeat (first | refine g_endt ?_ | refine g_end ?_ | refine g_then ?_ | refine g_in_normal ?_ | refine g_then_ret ?_ | refine g_in_ret ?_ | refine g_then_exit ?_ | refine g_in_exit rfl ?_ | refine g_in_exit_ne (by decide) ?_ | refine g_seq ?_ | refine g_region ?_ | refine g_block ?_ | refine g_ret ?_ | refine g_return_n ?_ | refine g_exit ?_ | refine g_skip ?_)
    refine g_hideR fun Q_ hQ_ => ?_
    refine o_move ?_
    refine o_move ?_
    refine o_nil rfl ?_
    first | refine o_field rfl ?_ | refine o_fieldR rfl (by omega) ?_
    refine o_load1 (v := .slice a ps.length c0) rfl rfl ?_
    refine o_move ?_
    refine o_indexR (ys := ps) (i := i) rfl rfl rfl hin rfl rfl ?_
    refine o_fieldR rfl (by omega) ?_
    refine o_loadEN (ys := ps) (z := q) (v := q.id.val) rfl hq rfl rfl ?_
    refine o_callp (Has04_spec A n c ids q.id hl (by omega)) rfl rfl ?_
    rintro _ _ ⟨rfl, rfl⟩
    refine g_end (G.imp (hQ_ .normal _) ?_)
    clear hQ_ Q_
    try refine g_then ?_
    cases hg : (keepG ids) q with
    | false =>
      rw [if_pos (by rw [hg]; rfl)] at hft
      first | refine g_seq (g_cond_t rfl (by unfold keepG at hg; simpa using hg) ?_) | refine g_cond_t rfl (by unfold keepG at hg; simpa using hg) ?_
      repeat (first | refine g_endt ?_ | refine g_end ?_ | refine g_then ?_ | refine g_in_normal ?_ | refine g_then_ret ?_ | refine g_in_ret ?_ | refine g_then_exit ?_ | refine g_in_exit rfl ?_ | refine g_in_exit_ne (by decide) ?_ | refine g_seq ?_ | refine g_region ?_ | refine g_block ?_ | refine g_ret ?_ | refine g_return_n ?_ | refine g_exit ?_ | refine g_skip ?_)
      refine g_hideR fun Q_ hQ_ => ?_
      refine o_move ?_
      refine o_move ?_
      refine o_nil rfl ?_
      first | refine o_field rfl ?_ | refine o_fieldR rfl (by omega) ?_
      refine o_load1 (v := .slice a ps.length c0) rfl rfl ?_
      refine o_move ?_
      refine o_indexR (ys := ps) (i := i) rfl rfl rfl hin rfl rfl ?_
      refine o_loadE (ys := ps) rfl rfl hq ?_
      refine o_litP (e := 41) encP [q] (q).val.cells (fun w => by kernel_rfl) (by simp [encP]) (by simp [maxLen]) fun _ => ?_
      refine o_append (xs := os) (ys := [q]) (by first | rfl | (simp only [List.length_map, List.length_take, List.length_append]; first | rfl | (congr 1; omega))) rfl rfl rfl rfl (fun _ => .inr trivial) (by simp [maxLen]; omega) (by simp; omega) fun S2 s2 => ?_
      refine o_assign ?_
      refine g_end (G.imp (hQ_ .normal _) ?_)
      clear hQ_ Q_
      try refine g_then ?_
      repeat (first | refine g_endt ?_ | refine g_end ?_ | refine g_then ?_ | refine g_in_normal ?_ | refine g_then_ret ?_ | refine g_in_ret ?_ | refine g_then_exit ?_ | refine g_in_exit rfl ?_ | refine g_in_exit_ne (by decide) ?_ | refine g_seq ?_ | refine g_region ?_ | refine g_block ?_ | refine g_ret ?_ | refine g_return_n ?_ | refine g_exit ?_ | refine g_skip ?_)
      repeat (first | refine g_endt ?_ | refine g_end ?_ | refine g_then ?_ | refine g_in_normal ?_ | refine g_then_ret ?_ | refine g_in_ret ?_ | refine g_then_exit ?_ | refine g_in_exit rfl ?_ | refine g_in_exit_ne (by decide) ?_ | refine g_seq ?_ | refine g_region ?_ | refine g_block ?_ | refine g_ret ?_ | refine g_return_n ?_ | refine g_exit ?_ | refine g_skip ?_)
      refine g_hideR fun Q_ hQ_ => ?_
      refine o_move ?_
      refine o_add (c := ((i + 1 : Nat) : Int)) rfl rfl (by omega) (by omega) (by omega) ?_
      refine o_assign ?_
      refine g_end (G.imp (hQ_ .normal _) ?_)
      clear hQ_ Q_
      try refine g_then ?_
      repeat (first | refine g_endt ?_ | refine g_end ?_ | refine g_then ?_ | refine g_in_normal ?_ | refine g_then_ret ?_ | refine g_in_ret ?_ | refine g_then_exit ?_ | refine g_in_exit rfl ?_ | refine g_in_exit_ne (by decide) ?_ | refine g_seq ?_ | refine g_region ?_ | refine g_block ?_ | refine g_ret ?_ | refine g_return_n ?_ | refine g_exit ?_ | refine g_skip ?_)
      exact g_meets ⟨(i + 1, S2, s2), hin⟩ (by show ps.length - (i + 1) < ps.length - i; omega) (Sat.mem ⟨rfl, rfl, by rw [hft, List.length_append]; rfl, rfl, trivial⟩) (t := by
        show Take _ [rC r room a ps.length c0, psl encP 16 a ps, psl encS 3 A ids, oP S2 s2 (goneR (ps.take (i + 1)) (keepG ids))] _
        rw [hft]; infer_instance)
    | true =>
      rw [if_neg (by rw [hg]; decide), List.append_nil] at hft
      first | refine g_seq (g_cond_f rfl (by unfold keepG at hg; simpa using hg) ?_) | refine g_cond_f rfl (by unfold keepG at hg; simpa using hg) ?_
      repeat (first | refine g_endt ?_ | refine g_end ?_ | refine g_then ?_ | refine g_in_normal ?_ | refine g_then_ret ?_ | refine g_in_ret ?_ | refine g_then_exit ?_ | refine g_in_exit rfl ?_ | refine g_in_exit_ne (by decide) ?_ | refine g_seq ?_ | refine g_region ?_ | refine g_block ?_ | refine g_ret ?_ | refine g_return_n ?_ | refine g_exit ?_ | refine g_skip ?_)
      repeat (first | refine g_endt ?_ | refine g_end ?_ | refine g_then ?_ | refine g_in_normal ?_ | refine g_then_ret ?_ | refine g_in_ret ?_ | refine g_then_exit ?_ | refine g_in_exit rfl ?_ | refine g_in_exit_ne (by decide) ?_ | refine g_seq ?_ | refine g_region ?_ | refine g_block ?_ | refine g_ret ?_ | refine g_return_n ?_ | refine g_exit ?_ | refine g_skip ?_)
      refine g_hideR fun Q_ hQ_ => ?_
      refine o_move ?_
      refine o_add (c := ((i + 1 : Nat) : Int)) rfl rfl (by omega) (by omega) (by omega) ?_
      refine o_assign ?_
      refine g_end (G.imp (hQ_ .normal _) ?_)
      clear hQ_ Q_
      try refine g_then ?_
      repeat (first | refine g_endt ?_ | refine g_end ?_ | refine g_then ?_ | refine g_in_normal ?_ | refine g_then_ret ?_ | refine g_in_ret ?_ | refine g_then_exit ?_ | refine g_in_exit rfl ?_ | refine g_in_exit_ne (by decide) ?_ | refine g_seq ?_ | refine g_region ?_ | refine g_block ?_ | refine g_ret ?_ | refine g_return_n ?_ | refine g_exit ?_ | refine g_skip ?_)
      exact g_meets ⟨(i + 1, S, s), hin⟩ (by show ps.length - (i + 1) < ps.length - i; omega) (Sat.mem ⟨rfl, rfl, by rw [hft]; rfl, rfl, trivial⟩) (t := by
        show Take _ [rC r room a ps.length c0, psl encP 16 a ps, psl encS 3 A ids, oP S s (goneR (ps.take (i + 1)) (keepG ids))] _
        rw [hft]; infer_instance)
  first | refine g_seq (g_cond_f rfl (by simp; omega) ?_) | refine g_cond_f rfl (by simp; omega) ?_
  rw [List.take_of_length_le (by omega)] at hol ⊢
  refine G.bring [oP S s (goneR ps (keepG ids))] (G.frz ?_)
  have hle : (goneR ps (keepG ids)).length ≤ ps.length := List.length_filter_le _ _
  repeat (first | refine g_endt ?_ | refine g_end ?_ | refine g_then ?_ | refine g_in_normal ?_ | refine g_then_ret ?_ | refine g_in_ret ?_ | refine g_then_exit ?_ | refine g_in_exit rfl ?_ | refine g_in_exit_ne (by decide) ?_ | refine g_seq ?_ | refine g_region ?_ | refine g_block ?_ | refine g_ret ?_ | refine g_return_n ?_ | refine g_exit ?_ | refine g_skip ?_)
  refine g_hideR fun Q_ hQ_ => ?_
  refine o_move ?_
  refine o_move ?_
  refine o_call (left15_spec r room a ps.length c0 S (goneR ps (keepG ids)).length s (by omega) hle) rfl rfl ?_
  rintro _ _ ⟨rfl, rfl⟩
  refine o_assign ?_
  refine g_end (G.imp (hQ_ .normal _) ?_)
  clear hQ_ Q_
  try refine g_then ?_
  refine shutRM r room (goneR ps (keepG ids)) S s rfl ?_
  repeat (first | refine g_endt ?_ | refine g_end ?_ | refine g_then ?_ | refine g_in_normal ?_ | refine g_then_ret ?_ | refine g_in_ret ?_ | refine g_then_exit ?_ | refine g_in_exit rfl ?_ | refine g_in_exit_ne (by decide) ?_ | refine g_seq ?_ | refine g_region ?_ | refine g_block ?_ | refine g_ret ?_ | refine g_return_n ?_ | refine g_exit ?_ | refine g_skip ?_)
  exact ret1 (K := [RefM r room (goneR ps (keepG ids))]) rfl (resT rfl) ⟨rfl, rfl⟩
set_option maxHeartbeats 2000000 in
theorem DropR15_spec (r : Nat) (room : Int) (ps : List PrefD) (hp : ps.length ≤ 10000) (A : Option Addr) (n c : Nat) (nums : List Int) (hl : nums.length = n) (hn : n ≤ 1000) {v0 : Int} {os : List PrefD} (h : goneR ps (dropG nums) = os) (h2 : ((ps.length - os.length : Nat) : Int) = v0) :
    Ctr Tryz.prog 24 [.pointer (some ⟨r, 0, none⟩), .slice A n c] [RefM r room ps, psl encI 1 A nums] (fun v M => v = .int .i64 v0 ∧ M = [RefM r room os]) := by
  refine spec_of Tryz.func24 rfl Tryz.ntmps24 rfl fun w0 F => ?_
  -- hide
  -- (*ponder/ponderref15.Memory).Drop
  subst h; subst h2
  refine openRM r room ps fun a c0 => ?_
  repeat (first | refine g_endt ?_ | refine g_end ?_ | refine g_then ?_ | refine g_in_normal ?_ | refine g_then_ret ?_ | refine g_in_ret ?_ | refine g_then_exit ?_ | refine g_in_exit rfl ?_ | refine g_in_exit_ne (by decide) ?_ | refine g_seq ?_ | refine g_region ?_ | refine g_block ?_ | refine g_ret ?_ | refine g_return_n ?_ | refine g_exit ?_ | refine g_skip ?_)
  refine g_hideR fun Q_ hQ_ => ?_
  refine o_assign ?_
  refine g_end (G.imp (hQ_ .normal _) ?_)
  clear hQ_ Q_
  try refine g_then ?_
  repeat (first | refine g_endt ?_ | refine g_end ?_ | refine g_then ?_ | refine g_in_normal ?_ | refine g_then_ret ?_ | refine g_in_ret ?_ | refine g_then_exit ?_ | refine g_in_exit rfl ?_ | refine g_in_exit_ne (by decide) ?_ | refine g_seq ?_ | refine g_region ?_ | refine g_block ?_ | refine g_ret ?_ | refine g_return_n ?_ | refine g_exit ?_ | refine g_skip ?_)
  refine g_hideR fun Q_ hQ_ => ?_
  refine o_assign ?_
  refine g_end (G.imp (hQ_ .normal _) ?_)
  clear hQ_ Q_
  try refine g_then ?_
  refine G.nil_slice (α := PrefD) 41 encP 16 ?_
  repeat (first | refine g_endt ?_ | refine g_end ?_ | refine g_then ?_ | refine g_in_normal ?_ | refine g_then_ret ?_ | refine g_in_ret ?_ | refine g_then_exit ?_ | refine g_in_exit rfl ?_ | refine g_in_exit_ne (by decide) ?_ | refine g_seq ?_ | refine g_region ?_ | refine g_block ?_ | refine g_ret ?_ | refine g_return_n ?_ | refine g_exit ?_ | refine g_skip ?_)
  refine g_hideR fun Q_ hQ_ => ?_
  refine o_assign ?_
  refine g_end (G.imp (hQ_ .normal _) ?_)
  clear hQ_ Q_
  try refine g_then ?_
  repeat (first | refine g_endt ?_ | refine g_end ?_ | refine g_then ?_ | refine g_in_normal ?_ | refine g_then_ret ?_ | refine g_in_ret ?_ | refine g_then_exit ?_ | refine g_in_exit rfl ?_ | refine g_in_exit_ne (by decide) ?_ | refine g_seq ?_ | refine g_region ?_ | refine g_block ?_ | refine g_ret ?_ | refine g_return_n ?_ | refine g_exit ?_ | refine g_skip ?_)
  refine g_loop (σ := {t : Nat × Option Addr × Nat // t.1 ≤ ps.length}) (S := fun t => [(0, .pointer (some ⟨r, 0, none⟩)), (1, .slice A n c), (5, .slice t.1.2.1 (goneR (ps.take t.1.1) (dropG nums)).length t.1.2.2), (6, .int .i64 (t.1.1 : Int))])
    (H := fun t => [rC r room a ps.length c0, psl encP 16 a ps, psl encI 1 A nums, oP t.1.2.1 t.1.2.2 (goneR (ps.take t.1.1) (dropG nums))]) (μ := fun t => ps.length - t.1.1) (s0 := ⟨(0, none, 0), Nat.zero_le _⟩) (Sat.mem ⟨rfl, rfl, rfl, rfl, trivial⟩) (t := (inferInstance : Take _ [rC r room a ps.length c0, psl encP 16 a ps, psl encI 1 A nums, oP none 0 ([] : List PrefD)] _)) ?_
  rintro ⟨⟨i, S, s⟩, hi⟩ ρ2
  dsimp only at hi ⊢
  have hol : (goneR (ps.take i) (dropG nums)).length ≤ i := Nat.le_trans (List.length_filter_le _ _) (by simp; omega)
  repeat (first | refine g_endt ?_ | refine g_end ?_ | refine g_then ?_ | refine g_in_normal ?_ | refine g_then_ret ?_ | refine g_in_ret ?_ | refine g_then_exit ?_ | refine g_in_exit rfl ?_ | refine g_in_exit_ne (by decide) ?_ | refine g_seq ?_ | refine g_region ?_ | refine g_block ?_ | refine g_ret ?_ | refine g_return_n ?_ | refine g_exit ?_ | refine g_skip ?_)
  refine g_hideR fun Q_ hQ_ => ?_
  refine o_move ?_
  refine o_move ?_
  refine o_nil rfl ?_
  first | refine o_field rfl ?_ | refine o_fieldR rfl (by omega) ?_
  refine o_load1 (v := .slice a ps.length c0) rfl rfl ?_
  refine o_len rfl rfl ?_
  refine o_lss rfl rfl ?_
  refine g_end (G.imp (hQ_ .normal _) ?_)
  clear hQ_ Q_
  try refine g_then ?_
  by_cases hin : i < ps.length
  · first | refine g_seq (g_cond_t rfl (by first | rfl | (simp; done) | (simp; omega) | (simp; assumption)) ?_) | refine g_cond_t rfl (by first | rfl | (simp; done) | (simp; omega) | (simp; assumption)) ?_
    obtain ⟨q, hq⟩ : ∃ q, ps[i]? = some q := ⟨_, List.getElem?_eq_getElem hin⟩
    have hft : goneR (ps.take (i + 1)) (dropG nums) = goneR (ps.take i) (dropG nums) ++ if (!(dropG nums) q) = true then [q] else [] := filter_take (fun p => !(dropG nums) p) hq
    generalize goneR (ps.take i) (dropG nums) = os at hol hft ⊢
    have ho2 : ∀ b, q.o = b → (PrefD.val q).cells.toList[13]? = some (.bool b) := fun b e => by rw [← e]; rfl
    repeat (first | refine g_endt ?_ | refine g_end ?_ | refine g_then ?_ | refine g_in_normal ?_ | refine g_then_ret ?_ | refine g_in_ret ?_ | refine g_then_exit ?_ | refine g_in_exit rfl ?_ | refine g_in_exit_ne (by decide) ?_ | refine g_seq ?_ | refine g_region ?_ | refine g_block ?_ | refine g_ret ?_ | refine g_return_n ?_ | refine g_exit ?_ | refine g_skip ?_)
    cases ho : q.o with
    | true =>
      have hg : dropG nums q = false := by unfold dropG; rw [ho]; simp
      repeat (first | refine g_endt ?_ | refine g_end ?_ | refine g_then ?_ | refine g_in_normal ?_ | refine g_then_ret ?_ | refine g_in_ret ?_ | refine g_then_exit ?_ | refine g_in_exit rfl ?_ | refine g_in_exit_ne (by decide) ?_ | refine g_seq ?_ | refine g_region ?_ | refine g_block ?_ | refine g_ret ?_ | refine g_return_n ?_ | refine g_exit ?_ | refine g_skip ?_)
      refine g_hideR fun Q_ hQ_ => ?_
      refine o_move ?_
      refine o_nil rfl ?_
      first | refine o_field rfl ?_ | refine o_fieldR rfl (by omega) ?_
      refine o_load1 (v := .slice a ps.length c0) rfl rfl ?_
      refine o_move ?_
      refine o_indexR (ys := ps) (i := i) rfl rfl rfl hin rfl rfl ?_
      refine o_fieldR rfl (by omega) ?_
      refine o_loadE1 (ys := ps) (v := .bool true) rfl hq (ho2 _ ho) ?_
      refine o_move ?_
      first | (refine o_want rfl rfl rfl rfl rfl ?_; refine o_move ?_) | refine o_unwanted rfl rfl rfl rfl rfl ?_ | refine o_undef rfl rfl rfl ?_
      first | (refine o_want rfl rfl rfl rfl rfl ?_; refine o_move ?_) | refine o_unwanted rfl rfl rfl rfl rfl ?_ | refine o_undef rfl rfl rfl ?_
      first | (refine o_want rfl rfl rfl rfl rfl ?_; refine o_nil rfl ?_) | refine o_unwanted rfl rfl rfl rfl rfl ?_ | refine o_undef rfl rfl rfl ?_
      first | (refine o_want rfl rfl rfl rfl rfl ?_; (first | refine o_field rfl ?_ | refine o_fieldR rfl (by omega) ?_)) | refine o_unwanted rfl rfl rfl rfl rfl ?_ | refine o_undef rfl rfl rfl ?_
      first | refine o_unwanted rfl rfl rfl rfl rfl ?_ | refine o_undef rfl rfl rfl ?_
      first | (refine o_want rfl rfl rfl rfl rfl ?_; refine o_move ?_) | refine o_unwanted rfl rfl rfl rfl rfl ?_ | refine o_undef rfl rfl rfl ?_
      first | refine o_unwanted rfl rfl rfl rfl rfl ?_ | refine o_undef rfl rfl rfl ?_
      first | refine o_unwanted rfl rfl rfl rfl rfl ?_ | refine o_undef rfl rfl rfl ?_
      first | refine o_unwanted rfl rfl rfl rfl rfl ?_ | refine o_undef rfl rfl rfl ?_
      first | refine o_unwanted rfl rfl rfl rfl rfl ?_ | refine o_undef rfl rfl rfl ?_
      first | (refine o_want rfl rfl rfl rfl rfl ?_; refine o_not rfl ?_) | refine o_unwanted rfl rfl rfl rfl rfl ?_ | refine o_undef rfl rfl rfl ?_
      first | refine o_pick_t rfl rfl ?_ | refine o_pick_f rfl rfl ?_
      refine g_end (G.imp (hQ_ .normal _) ?_)
      clear hQ_ Q_
      try refine g_then ?_
      rw [if_pos (by rw [hg]; rfl)] at hft
      first | refine g_seq (g_cond_t rfl (by first | rfl | (simp; done) | (simp; omega) | (simp; assumption)) ?_) | refine g_cond_t rfl (by first | rfl | (simp; done) | (simp; omega) | (simp; assumption)) ?_
      repeat (first | refine g_endt ?_ | refine g_end ?_ | refine g_then ?_ | refine g_in_normal ?_ | refine g_then_ret ?_ | refine g_in_ret ?_ | refine g_then_exit ?_ | refine g_in_exit rfl ?_ | refine g_in_exit_ne (by decide) ?_ | refine g_seq ?_ | refine g_region ?_ | refine g_block ?_ | refine g_ret ?_ | refine g_return_n ?_ | refine g_exit ?_ | refine g_skip ?_)
      refine g_hideR fun Q_ hQ_ => ?_
      refine o_move ?_
      refine o_move ?_
      refine o_nil rfl ?_
      first | refine o_field rfl ?_ | refine o_fieldR rfl (by omega) ?_
      refine o_load1 (v := .slice a ps.length c0) rfl rfl ?_
      refine o_move ?_
      refine o_indexR (ys := ps) (i := i) rfl rfl rfl hin rfl rfl ?_
      refine o_loadE (ys := ps) rfl rfl hq ?_
      refine o_litP (e := 41) encP [q] (q).val.cells (fun w => by kernel_rfl) (by simp [encP]) (by simp [maxLen]) fun _ => ?_
      refine o_append (xs := os) (ys := [q]) (by first | rfl | (simp only [List.length_map, List.length_take, List.length_append]; first | rfl | (congr 1; omega))) rfl rfl rfl rfl (fun _ => .inr trivial) (by simp [maxLen]; omega) (by simp; omega) fun S2 s2 => ?_
      refine o_assign ?_
      refine g_end (G.imp (hQ_ .normal _) ?_)
      clear hQ_ Q_
      try refine g_then ?_
      repeat (first | refine g_endt ?_ | refine g_end ?_ | refine g_then ?_ | refine g_in_normal ?_ | refine g_then_ret ?_ | refine g_in_ret ?_ | refine g_then_exit ?_ | refine g_in_exit rfl ?_ | refine g_in_exit_ne (by decide) ?_ | refine g_seq ?_ | refine g_region ?_ | refine g_block ?_ | refine g_ret ?_ | refine g_return_n ?_ | refine g_exit ?_ | refine g_skip ?_)
      repeat (first | refine g_endt ?_ | refine g_end ?_ | refine g_then ?_ | refine g_in_normal ?_ | refine g_then_ret ?_ | refine g_in_ret ?_ | refine g_then_exit ?_ | refine g_in_exit rfl ?_ | refine g_in_exit_ne (by decide) ?_ | refine g_seq ?_ | refine g_region ?_ | refine g_block ?_ | refine g_ret ?_ | refine g_return_n ?_ | refine g_exit ?_ | refine g_skip ?_)
      refine g_hideR fun Q_ hQ_ => ?_
      refine o_move ?_
      refine o_add (c := ((i + 1 : Nat) : Int)) rfl rfl (by omega) (by omega) (by omega) ?_
      refine o_assign ?_
      refine g_end (G.imp (hQ_ .normal _) ?_)
      clear hQ_ Q_
      try refine g_then ?_
      repeat (first | refine g_endt ?_ | refine g_end ?_ | refine g_then ?_ | refine g_in_normal ?_ | refine g_then_ret ?_ | refine g_in_ret ?_ | refine g_then_exit ?_ | refine g_in_exit rfl ?_ | refine g_in_exit_ne (by decide) ?_ | refine g_seq ?_ | refine g_region ?_ | refine g_block ?_ | refine g_ret ?_ | refine g_return_n ?_ | refine g_exit ?_ | refine g_skip ?_)
      exact g_meets ⟨(i + 1, S2, s2), hin⟩ (by show ps.length - (i + 1) < ps.length - i; omega) (Sat.mem ⟨rfl, rfl, by rw [hft, List.length_append]; rfl, rfl, trivial⟩) (t := by
        show Take _ [rC r room a ps.length c0, psl encP 16 a ps, psl encI 1 A nums, oP S2 s2 (goneR (ps.take (i + 1)) (dropG nums))] _
        rw [hft]; infer_instance)
    | false =>
      have hg0 : dropG nums q = hasI nums q.by_ := by unfold dropG hasI; rw [ho]; simp
      repeat (first | refine g_endt ?_ | refine g_end ?_ | refine g_then ?_ | refine g_in_normal ?_ | refine g_then_ret ?_ | refine g_in_ret ?_ | refine g_then_exit ?_ | refine g_in_exit rfl ?_ | refine g_in_exit_ne (by decide) ?_ | refine g_seq ?_ | refine g_region ?_ | refine g_block ?_ | refine g_ret ?_ | refine g_return_n ?_ | refine g_exit ?_ | refine g_skip ?_)
      refine g_hideR fun Q_ hQ_ => ?_
      refine o_move ?_
      refine o_nil rfl ?_
      first | refine o_field rfl ?_ | refine o_fieldR rfl (by omega) ?_
      refine o_load1 (v := .slice a ps.length c0) rfl rfl ?_
      refine o_move ?_
      refine o_indexR (ys := ps) (i := i) rfl rfl rfl hin rfl rfl ?_
      refine o_fieldR rfl (by omega) ?_
      refine o_loadE1 (ys := ps) (v := .bool false) rfl hq (ho2 _ ho) ?_
      refine o_move ?_
      first | (refine o_want rfl rfl rfl rfl rfl ?_; refine o_move ?_) | refine o_unwanted rfl rfl rfl rfl rfl ?_ | refine o_undef rfl rfl rfl ?_
      first | (refine o_want rfl rfl rfl rfl rfl ?_; refine o_move ?_) | refine o_unwanted rfl rfl rfl rfl rfl ?_ | refine o_undef rfl rfl rfl ?_
      first | (refine o_want rfl rfl rfl rfl rfl ?_; refine o_nil rfl ?_) | refine o_unwanted rfl rfl rfl rfl rfl ?_ | refine o_undef rfl rfl rfl ?_
      first | (refine o_want rfl rfl rfl rfl rfl ?_; (first | refine o_field rfl ?_ | refine o_fieldR rfl (by omega) ?_)) | refine o_unwanted rfl rfl rfl rfl rfl ?_ | refine o_undef rfl rfl rfl ?_
      refine o_want rfl rfl rfl rfl rfl (o_load1 (v := .slice a ps.length c0) rfl rfl ?_)
      first | (refine o_want rfl rfl rfl rfl rfl ?_; refine o_move ?_) | refine o_unwanted rfl rfl rfl rfl rfl ?_ | refine o_undef rfl rfl rfl ?_
      refine o_want rfl rfl rfl rfl rfl (o_indexR (ys := ps) (i := i) rfl rfl rfl hin rfl rfl ?_)
      refine o_want rfl rfl rfl rfl rfl (o_fieldR rfl (by omega) ?_)
      refine o_want rfl rfl rfl rfl rfl (o_loadE1 (ys := ps) (v := .int .i64 q.by_) rfl hq rfl ?_)
      refine o_want rfl rfl rfl rfl rfl (o_callp (HasQ_spec A c n nums q.by_ hl (by omega) rfl) rfl rfl ?_)
      rintro _ _ ⟨rfl, rfl⟩
      first | (refine o_want rfl rfl rfl rfl rfl ?_; refine o_not rfl ?_) | refine o_unwanted rfl rfl rfl rfl rfl ?_ | refine o_undef rfl rfl rfl ?_
      first | refine o_pick_t rfl rfl ?_ | refine o_pick_f rfl rfl ?_
      refine g_end (G.imp (hQ_ .normal _) ?_)
      clear hQ_ Q_
      try refine g_then ?_
      cases hg : dropG nums q with
      | false =>
        rw [if_pos (by rw [hg]; rfl)] at hft
        first | refine g_seq (g_cond_t rfl (by rw [← hg0, hg]; rfl) ?_) | refine g_cond_t rfl (by rw [← hg0, hg]; rfl) ?_
        repeat (first | refine g_endt ?_ | refine g_end ?_ | refine g_then ?_ | refine g_in_normal ?_ | refine g_then_ret ?_ | refine g_in_ret ?_ | refine g_then_exit ?_ | refine g_in_exit rfl ?_ | refine g_in_exit_ne (by decide) ?_ | refine g_seq ?_ | refine g_region ?_ | refine g_block ?_ | refine g_ret ?_ | refine g_return_n ?_ | refine g_exit ?_ | refine g_skip ?_)
        refine g_hideR fun Q_ hQ_ => ?_
        refine o_move ?_
        refine o_move ?_
        refine o_nil rfl ?_
        first | refine o_field rfl ?_ | refine o_fieldR rfl (by omega) ?_
        refine o_load1 (v := .slice a ps.length c0) rfl rfl ?_
        refine o_move ?_
        refine o_indexR (ys := ps) (i := i) rfl rfl rfl hin rfl rfl ?_
        refine o_loadE (ys := ps) rfl rfl hq ?_
        refine o_litP (e := 41) encP [q] (q).val.cells (fun w => by kernel_rfl) (by simp [encP]) (by simp [maxLen]) fun _ => ?_
        refine o_append (xs := os) (ys := [q]) (by first | rfl | (simp only [List.length_map, List.length_take, List.length_append]; first | rfl | (congr 1; omega))) rfl rfl rfl rfl (fun _ => .inr trivial) (by simp [maxLen]; omega) (by simp; omega) fun S2 s2 => ?_
        refine o_assign ?_
        refine g_end (G.imp (hQ_ .normal _) ?_)
        clear hQ_ Q_
        try refine g_then ?_
        repeat (first | refine g_endt ?_ | refine g_end ?_ | refine g_then ?_ | refine g_in_normal ?_ | refine g_then_ret ?_ | refine g_in_ret ?_ | refine g_then_exit ?_ | refine g_in_exit rfl ?_ | refine g_in_exit_ne (by decide) ?_ | refine g_seq ?_ | refine g_region ?_ | refine g_block ?_ | refine g_ret ?_ | refine g_return_n ?_ | refine g_exit ?_ | refine g_skip ?_)
        repeat (first | refine g_endt ?_ | refine g_end ?_ | refine g_then ?_ | refine g_in_normal ?_ | refine g_then_ret ?_ | refine g_in_ret ?_ | refine g_then_exit ?_ | refine g_in_exit rfl ?_ | refine g_in_exit_ne (by decide) ?_ | refine g_seq ?_ | refine g_region ?_ | refine g_block ?_ | refine g_ret ?_ | refine g_return_n ?_ | refine g_exit ?_ | refine g_skip ?_)
        refine g_hideR fun Q_ hQ_ => ?_
        refine o_move ?_
        refine o_add (c := ((i + 1 : Nat) : Int)) rfl rfl (by omega) (by omega) (by omega) ?_
        refine o_assign ?_
        refine g_end (G.imp (hQ_ .normal _) ?_)
        clear hQ_ Q_
        try refine g_then ?_
        repeat (first | refine g_endt ?_ | refine g_end ?_ | refine g_then ?_ | refine g_in_normal ?_ | refine g_then_ret ?_ | refine g_in_ret ?_ | refine g_then_exit ?_ | refine g_in_exit rfl ?_ | refine g_in_exit_ne (by decide) ?_ | refine g_seq ?_ | refine g_region ?_ | refine g_block ?_ | refine g_ret ?_ | refine g_return_n ?_ | refine g_exit ?_ | refine g_skip ?_)
        exact g_meets ⟨(i + 1, S2, s2), hin⟩ (by show ps.length - (i + 1) < ps.length - i; omega) (Sat.mem ⟨rfl, rfl, by rw [hft, List.length_append]; rfl, rfl, trivial⟩) (t := by
          show Take _ [rC r room a ps.length c0, psl encP 16 a ps, psl encI 1 A nums, oP S2 s2 (goneR (ps.take (i + 1)) (dropG nums))] _
          rw [hft]; infer_instance)
      | true =>
        rw [if_neg (by rw [hg]; decide), List.append_nil] at hft
        first | refine g_seq (g_cond_f rfl (by rw [← hg0, hg]; rfl) ?_) | refine g_cond_f rfl (by rw [← hg0, hg]; rfl) ?_
        repeat (first | refine g_endt ?_ | refine g_end ?_ | refine g_then ?_ | refine g_in_normal ?_ | refine g_then_ret ?_ | refine g_in_ret ?_ | refine g_then_exit ?_ | refine g_in_exit rfl ?_ | refine g_in_exit_ne (by decide) ?_ | refine g_seq ?_ | refine g_region ?_ | refine g_block ?_ | refine g_ret ?_ | refine g_return_n ?_ | refine g_exit ?_ | refine g_skip ?_)
        repeat (first | refine g_endt ?_ | refine g_end ?_ | refine g_then ?_ | refine g_in_normal ?_ | refine g_then_ret ?_ | refine g_in_ret ?_ | refine g_then_exit ?_ | refine g_in_exit rfl ?_ | refine g_in_exit_ne (by decide) ?_ | refine g_seq ?_ | refine g_region ?_ | refine g_block ?_ | refine g_ret ?_ | refine g_return_n ?_ | refine g_exit ?_ | refine g_skip ?_)
        refine g_hideR fun Q_ hQ_ => ?_
        refine o_move ?_
        refine o_add (c := ((i + 1 : Nat) : Int)) rfl rfl (by omega) (by omega) (by omega) ?_
        refine o_assign ?_
        refine g_end (G.imp (hQ_ .normal _) ?_)
        clear hQ_ Q_
        try refine g_then ?_
        repeat (first | refine g_endt ?_ | refine g_end ?_ | refine g_then ?_ | refine g_in_normal ?_ | refine g_then_ret ?_ | refine g_in_ret ?_ | refine g_then_exit ?_ | refine g_in_exit rfl ?_ | refine g_in_exit_ne (by decide) ?_ | refine g_seq ?_ | refine g_region ?_ | refine g_block ?_ | refine g_ret ?_ | refine g_return_n ?_ | refine g_exit ?_ | refine g_skip ?_)
        exact g_meets ⟨(i + 1, S, s), hin⟩ (by show ps.length - (i + 1) < ps.length - i; omega) (Sat.mem ⟨rfl, rfl, by rw [hft]; rfl, rfl, trivial⟩) (t := by
          show Take _ [rC r room a ps.length c0, psl encP 16 a ps, psl encI 1 A nums, oP S s (goneR (ps.take (i + 1)) (dropG nums))] _
          rw [hft]; infer_instance)
  first | refine g_seq (g_cond_f rfl (by simp; omega) ?_) | refine g_cond_f rfl (by simp; omega) ?_
  rw [List.take_of_length_le (by omega)] at hol ⊢
  refine G.bring [oP S s (goneR ps (dropG nums))] (G.frz ?_)
  have hle : (goneR ps (dropG nums)).length ≤ ps.length := List.length_filter_le _ _
  repeat (first | refine g_endt ?_ | refine g_end ?_ | refine g_then ?_ | refine g_in_normal ?_ | refine g_then_ret ?_ | refine g_in_ret ?_ | refine g_then_exit ?_ | refine g_in_exit rfl ?_ | refine g_in_exit_ne (by decide) ?_ | refine g_seq ?_ | refine g_region ?_ | refine g_block ?_ | refine g_ret ?_ | refine g_return_n ?_ | refine g_exit ?_ | refine g_skip ?_)
  refine g_hideR fun Q_ hQ_ => ?_
  refine o_move ?_
  refine o_move ?_
  refine o_call (left15_spec r room a ps.length c0 S (goneR ps (dropG nums)).length s (by omega) hle) rfl rfl ?_
  rintro _ _ ⟨rfl, rfl⟩
  refine o_assign ?_
  refine g_end (G.imp (hQ_ .normal _) ?_)
  clear hQ_ Q_
  try refine g_then ?_
  refine shutRM r room (goneR ps (dropG nums)) S s rfl ?_
  repeat (first | refine g_endt ?_ | refine g_end ?_ | refine g_then ?_ | refine g_in_normal ?_ | refine g_then_ret ?_ | refine g_in_ret ?_ | refine g_then_exit ?_ | refine g_in_exit rfl ?_ | refine g_in_exit_ne (by decide) ?_ | refine g_seq ?_ | refine g_region ?_ | refine g_block ?_ | refine g_ret ?_ | refine g_return_n ?_ | refine g_exit ?_ | refine g_skip ?_)
  exact ret1 (K := [RefM r room (goneR ps (dropG nums))]) rfl (resT rfl) ⟨rfl, rfl⟩
end Go.Proofs.YtonaccfoelgpnaaGreat
/- A list copied. -/
namespace Go.Proofs.YtonaccfoelgpnaaGreat
open Go Go.Sl
attribute [local irreducible] Code.wpIn roundPost bodyPostM runL Ret Meets Begin

theorem CopyP_spec (A : Option Addr) (len cap : Nat) (ys : List PrefD) (hl : ys.length = len) (hm : len ≤ 1000000) : Ctr Tryz.prog 30 [.slice A len cap] [psl encP 16 A ys]
    (fun v M => ∃ S c, v = .slice S len c ∧ M = [osl 41 encP 16 S c ys]) := by
  refine spec_of Tryz.func30 rfl Tryz.ntmps30 rfl fun w0 F => ?_
  repeat (first | refine g_endt ?_ | refine g_end ?_ | refine g_then ?_ | refine g_in_normal ?_ | refine g_then_ret ?_ | refine g_in_ret ?_ | refine g_then_exit ?_ | refine g_in_exit rfl ?_ | refine g_in_exit_ne (by decide) ?_ | refine g_seq ?_ | refine g_region ?_ | refine g_block ?_ | refine g_ret ?_ | refine g_return_n ?_ | refine g_exit ?_ | refine g_skip ?_)
  refine o_assign ?_
  first | refine g_endt ?_ | refine g_end ?_
  repeat (first | refine g_endt ?_ | refine g_end ?_ | refine g_then ?_ | refine g_in_normal ?_ | refine g_then_ret ?_ | refine g_in_ret ?_ | refine g_then_exit ?_ | refine g_in_exit rfl ?_ | refine g_in_exit_ne (by decide) ?_ | refine g_seq ?_ | refine g_region ?_ | refine g_block ?_ | refine g_ret ?_ | refine g_return_n ?_ | refine g_exit ?_ | refine g_skip ?_)
  refine o_move ?_
  refine G.nil_slice 41 encP 16 ?_
  refine o_append (xs := []) (ys := ys) rfl rfl rfl rfl hl (fun _ => .inr trivial) (by simp [maxLen]; omega) (by simp; omega) fun S c => ?_
  change G _ _ [osl 41 encP 16 S c ys, psl encP 16 A ys] _
  refine o_assign ?_
  first | refine g_endt ?_ | refine g_end ?_
  repeat (first | refine g_endt ?_ | refine g_end ?_ | refine g_then ?_ | refine g_in_normal ?_ | refine g_then_ret ?_ | refine g_in_ret ?_ | refine g_then_exit ?_ | refine g_in_exit rfl ?_ | refine g_in_exit_ne (by decide) ?_ | refine g_seq ?_ | refine g_region ?_ | refine g_block ?_ | refine g_ret ?_ | refine g_return_n ?_ | refine g_exit ?_ | refine g_skip ?_)
  exact ret1 rfl (resT (v := .slice S (0 + ys.length) c) rfl) ⟨S, c, by rw [Nat.zero_add, hl], rfl⟩
end Go.Proofs.YtonaccfoelgpnaaGreat
/- Preference memory added to out of a row that stays its owner's. -/
namespace Go.Proofs.YtonaccfoelgpnaaGreat
open Go Go.Sl
attribute [local irreducible] Exit.then Exit.inBlock Code.wpIn roundPost bodyPostM runL Ret Meets MeetsD Begin

set_option maxHeartbeats 4000000 in
theorem Add17O_spec (m : Nat) (room : Int) (ps : List PrefD) (A : Option Addr) (n c : Nat) (l : List PrefD) (hl : l.length = n) (hm : n ≤ 10000) (hp : ps.length ≤ 10000) (hsm : ∀ p ∈ l, p.small) :
    Ctr Tryz.prog 15 [.pointer (some ⟨m, 0, none⟩), .slice A n c] [MemP m room ps, oP A c l] (fun v M => v = .int .i64 (addR room ps l).1 ∧ M = [MemP m room (addR room ps l).2, oP A c l]) := by
  refine spec_of Tryz.func15 rfl Tryz.ntmps15 rfl fun w0 F => ?_
  -- hide
  -- (*ponder/pref.Memory).Add
  repeat (first | refine g_endt ?_ | refine g_end ?_ | refine g_then ?_ | refine g_in_normal ?_ | refine g_then_ret ?_ | refine g_in_ret ?_ | refine g_then_exit ?_ | refine g_in_exit rfl ?_ | refine g_in_exit_ne (by decide) ?_ | refine g_seq ?_ | refine g_region ?_ | refine g_block ?_ | refine g_ret ?_ | refine g_return_n ?_ | refine g_exit ?_ | refine g_skip ?_)
  refine g_hideR fun Q_ hQ_ => ?_
  refine o_assign ?_
  refine g_end (G.imp (hQ_ .normal _) ?_)
  clear hQ_ Q_
  try refine g_then ?_
  repeat (first | refine g_endt ?_ | refine g_end ?_ | refine g_then ?_ | refine g_in_normal ?_ | refine g_then_ret ?_ | refine g_in_ret ?_ | refine g_then_exit ?_ | refine g_in_exit rfl ?_ | refine g_in_exit_ne (by decide) ?_ | refine g_seq ?_ | refine g_region ?_ | refine g_block ?_ | refine g_ret ?_ | refine g_return_n ?_ | refine g_exit ?_ | refine g_skip ?_)
  refine g_hideR fun Q_ hQ_ => ?_
  refine o_move ?_
  refine o_len rfl rfl ?_
  refine o_move ?_
  refine g_end (G.imp (hQ_ .normal _) ?_)
  clear hQ_ Q_
  try refine g_then ?_
  repeat (first | refine g_endt ?_ | refine g_end ?_ | refine g_then ?_ | refine g_in_normal ?_ | refine g_then_ret ?_ | refine g_in_ret ?_ | refine g_then_exit ?_ | refine g_in_exit rfl ?_ | refine g_in_exit_ne (by decide) ?_ | refine g_seq ?_ | refine g_region ?_ | refine g_block ?_ | refine g_ret ?_ | refine g_return_n ?_ | refine g_exit ?_ | refine g_skip ?_)
  refine g_loop (σ := {i : Nat // i ≤ n ∧ (l.take i).all validP = true}) (S := fun i => [(0, .pointer (some ⟨m, 0, none⟩)), (1, .slice A n c), (15, .slice A n c), (16, .int .i64 (n : Int)), (17, .int .i64 (i.1 : Int))]) (H := fun _ => [MemP m room ps, oP A c l]) (μ := fun i => n - i.1) (s0 := ⟨0, Nat.zero_le _, rfl⟩) (Sat.mem ⟨rfl, rfl, rfl, rfl, rfl, trivial⟩) ?_
  rintro ⟨i, hi, hall⟩ ρ'
  dsimp only at hi hall ⊢
  repeat (first | refine g_endt ?_ | refine g_end ?_ | refine g_then ?_ | refine g_in_normal ?_ | refine g_then_ret ?_ | refine g_in_ret ?_ | refine g_then_exit ?_ | refine g_in_exit rfl ?_ | refine g_in_exit_ne (by decide) ?_ | refine g_seq ?_ | refine g_region ?_ | refine g_block ?_ | refine g_ret ?_ | refine g_return_n ?_ | refine g_exit ?_ | refine g_skip ?_)
  refine g_hideR fun Q_ hQ_ => ?_
  refine o_lss rfl rfl ?_
  refine g_end (G.imp (hQ_ .normal _) ?_)
  clear hQ_ Q_
  try refine g_then ?_
  by_cases hin : i < n
  · first | refine g_seq (g_cond_t rfl (by first | rfl | (simp; done) | (simp; omega) | (simp; assumption)) ?_) | refine g_cond_t rfl (by first | rfl | (simp; done) | (simp; omega) | (simp; assumption)) ?_
    obtain ⟨x, hx⟩ : ∃ x, l[i]? = some x := ⟨_, List.getElem?_eq_getElem (by omega)⟩
    obtain ⟨v, hv⟩ : ∃ v, validP x = v := ⟨_, rfl⟩
    have hxm := List.mem_of_getElem? hx
    have hva := ValidP_spec x (hsm x hxm)
    rw [hv] at hva
    repeat (first | refine g_endt ?_ | refine g_end ?_ | refine g_then ?_ | refine g_in_normal ?_ | refine g_then_ret ?_ | refine g_in_ret ?_ | refine g_then_exit ?_ | refine g_in_exit rfl ?_ | refine g_in_exit_ne (by decide) ?_ | refine g_seq ?_ | refine g_region ?_ | refine g_block ?_ | refine g_ret ?_ | refine g_return_n ?_ | refine g_exit ?_ | refine g_skip ?_)
    repeat (first | refine g_endt ?_ | refine g_end ?_ | refine g_then ?_ | refine g_in_normal ?_ | refine g_then_ret ?_ | refine g_in_ret ?_ | refine g_then_exit ?_ | refine g_in_exit rfl ?_ | refine g_in_exit_ne (by decide) ?_ | refine g_seq ?_ | refine g_region ?_ | refine g_block ?_ | refine g_ret ?_ | refine g_return_n ?_ | refine g_exit ?_ | refine g_skip ?_)
    refine g_hideR fun Q_ hQ_ => ?_
    refine o_indexR (ys := l) (i := i) rfl rfl rfl (by omega) hl rfl ?_
    refine o_loadE (ys := l) rfl rfl hx ?_
    refine o_alloc fun c6 => ?_
    refine o_store (v := x.val) rfl rfl rfl rfl rfl ?_
    refine g_end (G.imp (hQ_ .normal _) ?_)
    clear hQ_ Q_
    try refine g_then ?_
    refine G.norm c6 x.val.cells rfl ?_
    repeat (first | refine g_endt ?_ | refine g_end ?_ | refine g_then ?_ | refine g_in_normal ?_ | refine g_then_ret ?_ | refine g_in_ret ?_ | refine g_then_exit ?_ | refine g_in_exit rfl ?_ | refine g_in_exit_ne (by decide) ?_ | refine g_seq ?_ | refine g_region ?_ | refine g_block ?_ | refine g_ret ?_ | refine g_return_n ?_ | refine g_exit ?_ | refine g_skip ?_)
    refine g_hideR fun Q_ hQ_ => ?_
    refine o_loadN (v := x.val) rfl rfl rfl ?_
    refine o_call (hva) rfl rfl ?_
    rintro _ _ ⟨rfl, rfl⟩
    refine o_not rfl ?_
    refine g_end (G.imp (hQ_ .normal _) ?_)
    clear hQ_ Q_
    try refine g_then ?_
    cases v with
    | false =>
      first | refine g_seq (g_cond_t rfl (by first | rfl | (simp; done) | (simp; omega) | (simp; assumption)) ?_) | refine g_cond_t rfl (by first | rfl | (simp; done) | (simp; omega) | (simp; assumption)) ?_
      have hbad : l.all validP = false := by rw [List.all_eq_false]; exact ⟨x, hxm, by rw [hv]; decide⟩
      rw [addR_bad hbad]
      repeat (first | refine g_endt ?_ | refine g_end ?_ | refine g_then ?_ | refine g_in_normal ?_ | refine g_then_ret ?_ | refine g_in_ret ?_ | refine g_then_exit ?_ | refine g_in_exit rfl ?_ | refine g_in_exit_ne (by decide) ?_ | refine g_seq ?_ | refine g_region ?_ | refine g_block ?_ | refine g_ret ?_ | refine g_return_n ?_ | refine g_exit ?_ | refine g_skip ?_)
      refine g_hideR fun Q_ hQ_ => ?_
      refine o_assign ?_
      refine g_end (G.imp (hQ_ .normal _) ?_)
      clear hQ_ Q_
      try refine g_then ?_
      repeat (first | refine g_endt ?_ | refine g_end ?_ | refine g_then ?_ | refine g_in_normal ?_ | refine g_then_ret ?_ | refine g_in_ret ?_ | refine g_then_exit ?_ | refine g_in_exit rfl ?_ | refine g_in_exit_ne (by decide) ?_ | refine g_seq ?_ | refine g_region ?_ | refine g_block ?_ | refine g_ret ?_ | refine g_return_n ?_ | refine g_exit ?_ | refine g_skip ?_)
      exact ret1 (K := [MemP m room ps, oP A c l]) rfl (resT (v := .int .i64 9) rfl) ⟨rfl, rfl⟩
    | true =>
      first | refine g_seq (g_cond_f rfl (by first | rfl | (simp; done) | (simp; omega) | (simp; assumption)) ?_) | refine g_cond_f rfl (by first | rfl | (simp; done) | (simp; omega) | (simp; assumption)) ?_
      repeat (first | refine g_endt ?_ | refine g_end ?_ | refine g_then ?_ | refine g_in_normal ?_ | refine g_then_ret ?_ | refine g_in_ret ?_ | refine g_then_exit ?_ | refine g_in_exit rfl ?_ | refine g_in_exit_ne (by decide) ?_ | refine g_seq ?_ | refine g_region ?_ | refine g_block ?_ | refine g_ret ?_ | refine g_return_n ?_ | refine g_exit ?_ | refine g_skip ?_)
      repeat (first | refine g_endt ?_ | refine g_end ?_ | refine g_then ?_ | refine g_in_normal ?_ | refine g_then_ret ?_ | refine g_in_ret ?_ | refine g_then_exit ?_ | refine g_in_exit rfl ?_ | refine g_in_exit_ne (by decide) ?_ | refine g_seq ?_ | refine g_region ?_ | refine g_block ?_ | refine g_ret ?_ | refine g_return_n ?_ | refine g_exit ?_ | refine g_skip ?_)
      refine g_hideR fun Q_ hQ_ => ?_
      refine o_add (c := ((i + 1 : Nat) : Int)) rfl rfl (by omega) (by omega) (by omega) ?_
      refine o_move ?_
      refine g_end (G.imp (hQ_ .normal _) ?_)
      clear hQ_ Q_
      try refine g_then ?_
      repeat (first | refine g_endt ?_ | refine g_end ?_ | refine g_then ?_ | refine g_in_normal ?_ | refine g_then_ret ?_ | refine g_in_ret ?_ | refine g_then_exit ?_ | refine g_in_exit rfl ?_ | refine g_in_exit_ne (by decide) ?_ | refine g_seq ?_ | refine g_region ?_ | refine g_block ?_ | refine g_ret ?_ | refine g_return_n ?_ | refine g_exit ?_ | refine g_skip ?_)
      exact g_meets ⟨i + 1, hin, by rw [List.take_add_one, hx, List.all_append, hall]; simp [hv]⟩ (by show n - (i + 1) < n - i; omega) (Sat.mem ⟨rfl, rfl, rfl, rfl, rfl, trivial⟩)
  first | refine g_seq (g_cond_f rfl (by simp; omega) ?_) | refine g_cond_f rfl (by simp; omega) ?_
  rw [List.take_of_length_le (by omega)] at hall
  repeat (first | refine g_endt ?_ | refine g_end ?_ | refine g_then ?_ | refine g_in_normal ?_ | refine g_then_ret ?_ | refine g_in_ret ?_ | refine g_then_exit ?_ | refine g_in_exit rfl ?_ | refine g_in_exit_ne (by decide) ?_ | refine g_seq ?_ | refine g_region ?_ | refine g_block ?_ | refine g_ret ?_ | refine g_return_n ?_ | refine g_exit ?_ | refine g_skip ?_)
  refine g_hideR fun Q_ hQ_ => ?_
  refine o_assign ?_
  refine g_end (G.imp (hQ_ .normal _) ?_)
  clear hQ_ Q_
  try refine g_then ?_
  refine openMm m room ps fun a c0 mp zs hI => ?_
  repeat (first | refine g_endt ?_ | refine g_end ?_ | refine g_then ?_ | refine g_in_normal ?_ | refine g_then_ret ?_ | refine g_in_ret ?_ | refine g_then_exit ?_ | refine g_in_exit rfl ?_ | refine g_in_exit_ne (by decide) ?_ | refine g_seq ?_ | refine g_region ?_ | refine g_block ?_ | refine g_ret ?_ | refine g_return_n ?_ | refine g_exit ?_ | refine g_skip ?_)
  refine g_hideR fun Q_ hQ_ => ?_
  refine o_move ?_
  refine o_nil rfl ?_
  first | refine o_field rfl ?_ | refine o_fieldR rfl (by omega) ?_
  refine o_load1 (v := .slice a ps.length c0) rfl rfl ?_
  refine o_len rfl rfl ?_
  refine o_move ?_
  refine g_end (G.imp (hQ_ .normal _) ?_)
  clear hQ_ Q_
  try refine g_then ?_
  refine G.nil_slice (α := PrefD) 41 encP 16 ?_
  repeat (first | refine g_endt ?_ | refine g_end ?_ | refine g_then ?_ | refine g_in_normal ?_ | refine g_then_ret ?_ | refine g_in_ret ?_ | refine g_then_exit ?_ | refine g_in_exit rfl ?_ | refine g_in_exit_ne (by decide) ?_ | refine g_seq ?_ | refine g_region ?_ | refine g_block ?_ | refine g_ret ?_ | refine g_return_n ?_ | refine g_exit ?_ | refine g_skip ?_)
  refine g_loop (σ := {t : Nat × Option Addr × Nat // t.1 ≤ ps.length}) (S := fun t => [(0, .pointer (some ⟨m, 0, none⟩)), (1, .slice A n c), (7, .slice t.1.2.1 ((ps.take t.1.1).filter fun q => !l.any fun p => takesP p q).length t.1.2.2), (28, .slice a ps.length c0), (29, .int .i64 (ps.length : Int)), (30, .int .i64 (t.1.1 : Int))])
    (H := fun t => [mC m room a ps.length c0 mp, psl encP 16 a ps, MapASP mp zs, pslots zs ps, oP A c l, oP t.1.2.1 t.1.2.2 ((ps.take t.1.1).filter fun q => !l.any fun p => takesP p q)]) (μ := fun t => ps.length - t.1.1) (s0 := ⟨(0, none, 0), Nat.zero_le _⟩) (Sat.mem ⟨rfl, rfl, rfl, rfl, rfl, rfl, trivial⟩) (t := (inferInstance : Take _ [mC m room a ps.length c0 mp, psl encP 16 a ps, MapASP mp zs, pslots zs ps, oP A c l, oP none 0 []] _)) ?_
  rintro ⟨⟨i2, S, s⟩, hi2⟩ ρ2
  dsimp only at hi2 ⊢
  have hol : ((ps.take i2).filter fun q => !l.any fun p => takesP p q).length ≤ i2 := Nat.le_trans (List.length_filter_le _ _) (by simp; omega)
  repeat (first | refine g_endt ?_ | refine g_end ?_ | refine g_then ?_ | refine g_in_normal ?_ | refine g_then_ret ?_ | refine g_in_ret ?_ | refine g_then_exit ?_ | refine g_in_exit rfl ?_ | refine g_in_exit_ne (by decide) ?_ | refine g_seq ?_ | refine g_region ?_ | refine g_block ?_ | refine g_ret ?_ | refine g_return_n ?_ | refine g_exit ?_ | refine g_skip ?_)
  refine g_hideR fun Q_ hQ_ => ?_
  refine o_lss rfl rfl ?_
  refine g_end (G.imp (hQ_ .normal _) ?_)
  clear hQ_ Q_
  try refine g_then ?_
  by_cases hin2 : i2 < ps.length
  · first | refine g_seq (g_cond_t rfl (by first | rfl | (simp; done) | (simp; omega) | (simp; assumption)) ?_) | refine g_cond_t rfl (by first | rfl | (simp; done) | (simp; omega) | (simp; assumption)) ?_
    obtain ⟨q, hq⟩ : ∃ q, ps[i2]? = some q := ⟨_, List.getElem?_eq_getElem hin2⟩
    have hft := filter_take (fun q => !l.any fun p => takesP p q) hq
    generalize hos : ((ps.take i2).filter fun q => !l.any fun p => takesP p q) = os at hol hft ⊢
    repeat (first | refine g_endt ?_ | refine g_end ?_ | refine g_then ?_ | refine g_in_normal ?_ | refine g_then_ret ?_ | refine g_in_ret ?_ | refine g_then_exit ?_ | refine g_in_exit rfl ?_ | refine g_in_exit_ne (by decide) ?_ | refine g_seq ?_ | refine g_region ?_ | refine g_block ?_ | refine g_ret ?_ | refine g_return_n ?_ | refine g_exit ?_ | refine g_skip ?_)
    repeat (first | refine g_endt ?_ | refine g_end ?_ | refine g_then ?_ | refine g_in_normal ?_ | refine g_then_ret ?_ | refine g_in_ret ?_ | refine g_then_exit ?_ | refine g_in_exit rfl ?_ | refine g_in_exit_ne (by decide) ?_ | refine g_seq ?_ | refine g_region ?_ | refine g_block ?_ | refine g_ret ?_ | refine g_return_n ?_ | refine g_exit ?_ | refine g_skip ?_)
    refine g_hideR fun Q_ hQ_ => ?_
    refine o_indexR (ys := ps) (i := i2) rfl rfl rfl hin2 rfl rfl ?_
    refine o_loadE (ys := ps) rfl rfl hq ?_
    refine o_alloc fun c9 => ?_
    refine o_store (v := q.val) rfl rfl rfl rfl rfl ?_
    refine g_end (G.imp (hQ_ .normal _) ?_)
    clear hQ_ Q_
    try refine g_then ?_
    refine G.norm c9 q.val.cells rfl ?_
    repeat (first | refine g_endt ?_ | refine g_end ?_ | refine g_then ?_ | refine g_in_normal ?_ | refine g_then_ret ?_ | refine g_in_ret ?_ | refine g_then_exit ?_ | refine g_in_exit rfl ?_ | refine g_in_exit_ne (by decide) ?_ | refine g_seq ?_ | refine g_region ?_ | refine g_block ?_ | refine g_ret ?_ | refine g_return_n ?_ | refine g_exit ?_ | refine g_skip ?_)
    refine g_hideR fun Q_ hQ_ => ?_
    refine o_assign ?_
    refine g_end (G.imp (hQ_ .normal _) ?_)
    clear hQ_ Q_
    try refine g_then ?_
    refine g_cut (σ := Unit) (ds' := []) (S := fun _ => [(0, .pointer (some ⟨m, 0, none⟩)), (1, .slice A n c), (7, .slice S os.length s), (9, .pointer (some ⟨c9, 0, none⟩)), (10, .bool (l.any fun p => takesP p q)), (28, .slice a ps.length c0), (29, .int .i64 (ps.length : Int)), (30, .int .i64 (i2 : Int))])
      (H := fun _ => [cPf c9 q, mC m room a ps.length c0 mp, psl encP 16 a ps, MapASP mp zs, pslots zs ps, oP A c l, oP S s os]) (ok := fun _ => True) ?_ ?_
    · skip
      repeat (first | refine g_endt ?_ | refine g_end ?_ | refine g_then ?_ | refine g_in_normal ?_ | refine g_then_ret ?_ | refine g_in_ret ?_ | refine g_then_exit ?_ | refine g_in_exit rfl ?_ | refine g_in_exit_ne (by decide) ?_ | refine g_seq ?_ | refine g_region ?_ | refine g_block ?_ | refine g_ret ?_ | refine g_return_n ?_ | refine g_exit ?_ | refine g_skip ?_)
      refine g_hideR fun Q_ hQ_ => ?_
      refine o_move ?_
      refine o_len rfl rfl ?_
      refine o_move ?_
      refine g_end (G.imp (hQ_ .normal _) ?_)
      clear hQ_ Q_
      try refine g_then ?_
      repeat (first | refine g_endt ?_ | refine g_end ?_ | refine g_then ?_ | refine g_in_normal ?_ | refine g_then_ret ?_ | refine g_in_ret ?_ | refine g_then_exit ?_ | refine g_in_exit rfl ?_ | refine g_in_exit_ne (by decide) ?_ | refine g_seq ?_ | refine g_region ?_ | refine g_block ?_ | refine g_ret ?_ | refine g_return_n ?_ | refine g_exit ?_ | refine g_skip ?_)
      refine g_loop (σ := {j : Nat // j ≤ n}) (S := fun j => [(0, .pointer (some ⟨m, 0, none⟩)), (1, .slice A n c), (7, .slice S os.length s), (9, .pointer (some ⟨c9, 0, none⟩)), (10, .bool ((l.take j.1).any fun p => takesP p q)), (28, .slice a ps.length c0), (29, .int .i64 (ps.length : Int)), (30, .int .i64 (i2 : Int)), (34, .slice A n c), (35, .int .i64 (n : Int)), (36, .int .i64 (j.1 : Int))])
        (H := fun _ => [cPf c9 q, mC m room a ps.length c0 mp, psl encP 16 a ps, MapASP mp zs, pslots zs ps, oP A c l, oP S s os]) (μ := fun j => n - j.1) (s0 := ⟨0, Nat.zero_le _⟩) (Sat.mem ⟨rfl, rfl, rfl, rfl, rfl, rfl, rfl, rfl, rfl, rfl, rfl, trivial⟩) ?_
      rintro ⟨j, hj⟩ ρ3
      dsimp only at hj ⊢
      repeat (first | refine g_endt ?_ | refine g_end ?_ | refine g_then ?_ | refine g_in_normal ?_ | refine g_then_ret ?_ | refine g_in_ret ?_ | refine g_then_exit ?_ | refine g_in_exit rfl ?_ | refine g_in_exit_ne (by decide) ?_ | refine g_seq ?_ | refine g_region ?_ | refine g_block ?_ | refine g_ret ?_ | refine g_return_n ?_ | refine g_exit ?_ | refine g_skip ?_)
      refine g_hideR fun Q_ hQ_ => ?_
      refine o_lss rfl rfl ?_
      refine g_end (G.imp (hQ_ .normal _) ?_)
      clear hQ_ Q_
      try refine g_then ?_
      by_cases hjn : j < n
      · first | refine g_seq (g_cond_t rfl (by first | rfl | (simp; done) | (simp; omega) | (simp; assumption)) ?_) | refine g_cond_t rfl (by first | rfl | (simp; done) | (simp; omega) | (simp; assumption)) ?_
        obtain ⟨x, hx⟩ : ∃ x, l[j]? = some x := ⟨_, List.getElem?_eq_getElem (by omega)⟩
        have hnx := any_take (fun p => takesP p q) hx
        obtain ⟨tk, htk⟩ : ∃ tk, takesP x q = tk := ⟨_, rfl⟩
        have hts := takes_spec x q
        rw [htk] at hts
        rw [htk] at hnx
        generalize ((l.take j).any fun p => takesP p q) = g at hnx ⊢
        repeat (first | refine g_endt ?_ | refine g_end ?_ | refine g_then ?_ | refine g_in_normal ?_ | refine g_then_ret ?_ | refine g_in_ret ?_ | refine g_then_exit ?_ | refine g_in_exit rfl ?_ | refine g_in_exit_ne (by decide) ?_ | refine g_seq ?_ | refine g_region ?_ | refine g_block ?_ | refine g_ret ?_ | refine g_return_n ?_ | refine g_exit ?_ | refine g_skip ?_)
        repeat (first | refine g_endt ?_ | refine g_end ?_ | refine g_then ?_ | refine g_in_normal ?_ | refine g_then_ret ?_ | refine g_in_ret ?_ | refine g_then_exit ?_ | refine g_in_exit rfl ?_ | refine g_in_exit_ne (by decide) ?_ | refine g_seq ?_ | refine g_region ?_ | refine g_block ?_ | refine g_ret ?_ | refine g_return_n ?_ | refine g_exit ?_ | refine g_skip ?_)
        refine g_hideR fun Q_ hQ_ => ?_
        refine o_indexR (ys := l) (i := j) rfl rfl rfl (by omega) hl rfl ?_
        refine o_loadE (ys := l) rfl rfl hx ?_
        refine o_alloc fun c12 => ?_
        refine o_store (v := x.val) rfl rfl rfl rfl rfl ?_
        refine g_end (G.imp (hQ_ .normal _) ?_)
        clear hQ_ Q_
        try refine g_then ?_
        refine G.norm c12 x.val.cells rfl ?_
        cases g with
        | true =>
          repeat (first | refine g_endt ?_ | refine g_end ?_ | refine g_then ?_ | refine g_in_normal ?_ | refine g_then_ret ?_ | refine g_in_ret ?_ | refine g_then_exit ?_ | refine g_in_exit rfl ?_ | refine g_in_exit_ne (by decide) ?_ | refine g_seq ?_ | refine g_region ?_ | refine g_block ?_ | refine g_ret ?_ | refine g_return_n ?_ | refine g_exit ?_ | refine g_skip ?_)
          refine g_hideR fun Q_ hQ_ => ?_
          refine o_move ?_
          refine o_move ?_
          first | refine o_unwanted rfl rfl rfl rfl rfl ?_ | refine o_undef rfl rfl rfl ?_
          first | refine o_unwanted rfl rfl rfl rfl rfl ?_ | refine o_undef rfl rfl rfl ?_
          first | refine o_unwanted rfl rfl rfl rfl rfl ?_ | refine o_undef rfl rfl rfl ?_
          first | refine o_pick_t rfl rfl ?_ | refine o_pick_f rfl rfl ?_
          refine o_assign ?_
          refine g_end (G.imp (hQ_ .normal _) ?_)
          clear hQ_ Q_
          try refine g_then ?_
          repeat (first | refine g_endt ?_ | refine g_end ?_ | refine g_then ?_ | refine g_in_normal ?_ | refine g_then_ret ?_ | refine g_in_ret ?_ | refine g_then_exit ?_ | refine g_in_exit rfl ?_ | refine g_in_exit_ne (by decide) ?_ | refine g_seq ?_ | refine g_region ?_ | refine g_block ?_ | refine g_ret ?_ | refine g_return_n ?_ | refine g_exit ?_ | refine g_skip ?_)
          repeat (first | refine g_endt ?_ | refine g_end ?_ | refine g_then ?_ | refine g_in_normal ?_ | refine g_then_ret ?_ | refine g_in_ret ?_ | refine g_then_exit ?_ | refine g_in_exit rfl ?_ | refine g_in_exit_ne (by decide) ?_ | refine g_seq ?_ | refine g_region ?_ | refine g_block ?_ | refine g_ret ?_ | refine g_return_n ?_ | refine g_exit ?_ | refine g_skip ?_)
          refine g_hideR fun Q_ hQ_ => ?_
          refine o_add (c := ((j + 1 : Nat) : Int)) rfl rfl (by omega) (by omega) (by omega) ?_
          refine o_move ?_
          refine g_end (G.imp (hQ_ .normal _) ?_)
          clear hQ_ Q_
          try refine g_then ?_
          repeat (first | refine g_endt ?_ | refine g_end ?_ | refine g_then ?_ | refine g_in_normal ?_ | refine g_then_ret ?_ | refine g_in_ret ?_ | refine g_then_exit ?_ | refine g_in_exit rfl ?_ | refine g_in_exit_ne (by decide) ?_ | refine g_seq ?_ | refine g_region ?_ | refine g_block ?_ | refine g_ret ?_ | refine g_return_n ?_ | refine g_exit ?_ | refine g_skip ?_)
          exact g_meets ⟨j + 1, hjn⟩ (by show n - (j + 1) < n - j; omega) (Sat.mem ⟨rfl, rfl, rfl, rfl, by rw [hnx]; rfl, rfl, rfl, rfl, rfl, rfl, rfl, trivial⟩)
        | false =>
          repeat (first | refine g_endt ?_ | refine g_end ?_ | refine g_then ?_ | refine g_in_normal ?_ | refine g_then_ret ?_ | refine g_in_ret ?_ | refine g_then_exit ?_ | refine g_in_exit rfl ?_ | refine g_in_exit_ne (by decide) ?_ | refine g_seq ?_ | refine g_region ?_ | refine g_block ?_ | refine g_ret ?_ | refine g_return_n ?_ | refine g_exit ?_ | refine g_skip ?_)
          refine g_hideR fun Q_ hQ_ => ?_
          refine o_move ?_
          refine o_move ?_
          refine o_want rfl rfl rfl rfl rfl (o_loadN (v := x.val) rfl rfl rfl ?_)
          refine o_want rfl rfl rfl rfl rfl (o_loadN (v := q.val) rfl rfl rfl ?_)
          refine o_want rfl rfl rfl rfl rfl (o_call (hts) rfl rfl ?_)
          rintro _ _ ⟨rfl, rfl⟩
          first | refine o_pick_t rfl rfl ?_ | refine o_pick_f rfl rfl ?_
          refine o_assign ?_
          refine g_end (G.imp (hQ_ .normal _) ?_)
          clear hQ_ Q_
          try refine g_then ?_
          repeat (first | refine g_endt ?_ | refine g_end ?_ | refine g_then ?_ | refine g_in_normal ?_ | refine g_then_ret ?_ | refine g_in_ret ?_ | refine g_then_exit ?_ | refine g_in_exit rfl ?_ | refine g_in_exit_ne (by decide) ?_ | refine g_seq ?_ | refine g_region ?_ | refine g_block ?_ | refine g_ret ?_ | refine g_return_n ?_ | refine g_exit ?_ | refine g_skip ?_)
          repeat (first | refine g_endt ?_ | refine g_end ?_ | refine g_then ?_ | refine g_in_normal ?_ | refine g_then_ret ?_ | refine g_in_ret ?_ | refine g_then_exit ?_ | refine g_in_exit rfl ?_ | refine g_in_exit_ne (by decide) ?_ | refine g_seq ?_ | refine g_region ?_ | refine g_block ?_ | refine g_ret ?_ | refine g_return_n ?_ | refine g_exit ?_ | refine g_skip ?_)
          refine g_hideR fun Q_ hQ_ => ?_
          refine o_add (c := ((j + 1 : Nat) : Int)) rfl rfl (by omega) (by omega) (by omega) ?_
          refine o_move ?_
          refine g_end (G.imp (hQ_ .normal _) ?_)
          clear hQ_ Q_
          try refine g_then ?_
          repeat (first | refine g_endt ?_ | refine g_end ?_ | refine g_then ?_ | refine g_in_normal ?_ | refine g_then_ret ?_ | refine g_in_ret ?_ | refine g_then_exit ?_ | refine g_in_exit rfl ?_ | refine g_in_exit_ne (by decide) ?_ | refine g_seq ?_ | refine g_region ?_ | refine g_block ?_ | refine g_ret ?_ | refine g_return_n ?_ | refine g_exit ?_ | refine g_skip ?_)
          exact g_meets ⟨j + 1, hjn⟩ (by show n - (j + 1) < n - j; omega) (Sat.mem ⟨rfl, rfl, rfl, rfl, by rw [hnx]; rfl, rfl, rfl, rfl, rfl, rfl, rfl, trivial⟩)
      · first | refine g_seq (g_cond_f rfl (by simp; omega) ?_) | refine g_cond_f rfl (by simp; omega) ?_
        rw [List.take_of_length_le (by omega)]
        repeat (first | refine g_endt ?_ | refine g_end ?_ | refine g_then ?_ | refine g_in_normal ?_ | refine g_then_ret ?_ | refine g_in_ret ?_ | refine g_then_exit ?_ | refine g_in_exit rfl ?_ | refine g_in_exit_ne (by decide) ?_ | refine g_seq ?_ | refine g_region ?_ | refine g_block ?_ | refine g_ret ?_ | refine g_return_n ?_ | refine g_exit ?_ | refine g_skip ?_)
        exact g_meets () trivial (Sat.mem ⟨rfl, rfl, rfl, rfl, rfl, rfl, rfl, rfl, trivial⟩)
    rintro _ ρ3 _
    generalize hg : (l.any fun p => takesP p q) = g at hft ⊢
    repeat (first | refine g_endt ?_ | refine g_end ?_ | refine g_then ?_ | refine g_in_normal ?_ | refine g_then_ret ?_ | refine g_in_ret ?_ | refine g_then_exit ?_ | refine g_in_exit rfl ?_ | refine g_in_exit_ne (by decide) ?_ | refine g_seq ?_ | refine g_region ?_ | refine g_block ?_ | refine g_ret ?_ | refine g_return_n ?_ | refine g_exit ?_ | refine g_skip ?_)
    refine g_hideR fun Q_ hQ_ => ?_
    refine o_move ?_
    refine o_not rfl ?_
    refine g_end (G.imp (hQ_ .normal _) ?_)
    clear hQ_ Q_
    try refine g_then ?_
    cases g with
    | true =>
      rw [if_neg (by decide), List.append_nil] at hft
      first | refine g_seq (g_cond_f rfl (by first | rfl | (simp; done) | (simp; omega) | (simp; assumption)) ?_) | refine g_cond_f rfl (by first | rfl | (simp; done) | (simp; omega) | (simp; assumption)) ?_
      repeat (first | refine g_endt ?_ | refine g_end ?_ | refine g_then ?_ | refine g_in_normal ?_ | refine g_then_ret ?_ | refine g_in_ret ?_ | refine g_then_exit ?_ | refine g_in_exit rfl ?_ | refine g_in_exit_ne (by decide) ?_ | refine g_seq ?_ | refine g_region ?_ | refine g_block ?_ | refine g_ret ?_ | refine g_return_n ?_ | refine g_exit ?_ | refine g_skip ?_)
      repeat (first | refine g_endt ?_ | refine g_end ?_ | refine g_then ?_ | refine g_in_normal ?_ | refine g_then_ret ?_ | refine g_in_ret ?_ | refine g_then_exit ?_ | refine g_in_exit rfl ?_ | refine g_in_exit_ne (by decide) ?_ | refine g_seq ?_ | refine g_region ?_ | refine g_block ?_ | refine g_ret ?_ | refine g_return_n ?_ | refine g_exit ?_ | refine g_skip ?_)
      refine g_hideR fun Q_ hQ_ => ?_
      refine o_add (c := ((i2 + 1 : Nat) : Int)) rfl rfl (by omega) (by omega) (by omega) ?_
      refine o_move ?_
      refine g_end (G.imp (hQ_ .normal _) ?_)
      clear hQ_ Q_
      try refine g_then ?_
      repeat (first | refine g_endt ?_ | refine g_end ?_ | refine g_then ?_ | refine g_in_normal ?_ | refine g_then_ret ?_ | refine g_in_ret ?_ | refine g_then_exit ?_ | refine g_in_exit rfl ?_ | refine g_in_exit_ne (by decide) ?_ | refine g_seq ?_ | refine g_region ?_ | refine g_block ?_ | refine g_ret ?_ | refine g_return_n ?_ | refine g_exit ?_ | refine g_skip ?_)
      exact g_meets ⟨(i2 + 1, S, s), hin2⟩ (by show ps.length - (i2 + 1) < ps.length - i2; omega) (Sat.mem ⟨rfl, rfl, by rw [hft]; rfl, rfl, rfl, rfl, trivial⟩) (t := by
        show Take _ [mC m room a ps.length c0 mp, psl encP 16 a ps, MapASP mp zs, pslots zs ps, oP A c l, oP S s ((ps.take (i2 + 1)).filter fun q => !l.any fun p => takesP p q)] _
        rw [hft]; infer_instance)
    | false =>
      rw [if_pos (by decide)] at hft
      first | refine g_seq (g_cond_t rfl (by first | rfl | (simp; done) | (simp; omega) | (simp; assumption)) ?_) | refine g_cond_t rfl (by first | rfl | (simp; done) | (simp; omega) | (simp; assumption)) ?_
      repeat (first | refine g_endt ?_ | refine g_end ?_ | refine g_then ?_ | refine g_in_normal ?_ | refine g_then_ret ?_ | refine g_in_ret ?_ | refine g_then_exit ?_ | refine g_in_exit rfl ?_ | refine g_in_exit_ne (by decide) ?_ | refine g_seq ?_ | refine g_region ?_ | refine g_block ?_ | refine g_ret ?_ | refine g_return_n ?_ | refine g_exit ?_ | refine g_skip ?_)
      refine g_hideR fun Q_ hQ_ => ?_
      refine o_move ?_
      refine o_loadN (v := q.val) rfl rfl rfl ?_
      refine o_litP (e := 41) encP [q] (q).val.cells (fun w => by kernel_rfl) (by simp [encP]) (by simp [maxLen]) fun _ => ?_
      refine o_append (xs := os) (ys := [q]) (by first | rfl | (simp only [List.length_map, List.length_take, List.length_append]; first | rfl | (congr 1; omega))) rfl rfl rfl rfl (fun _ => .inr trivial) (by simp [maxLen]; omega) (by simp; omega) fun S2 s2 => ?_
      refine o_assign ?_
      refine g_end (G.imp (hQ_ .normal _) ?_)
      clear hQ_ Q_
      try refine g_then ?_
      repeat (first | refine g_endt ?_ | refine g_end ?_ | refine g_then ?_ | refine g_in_normal ?_ | refine g_then_ret ?_ | refine g_in_ret ?_ | refine g_then_exit ?_ | refine g_in_exit rfl ?_ | refine g_in_exit_ne (by decide) ?_ | refine g_seq ?_ | refine g_region ?_ | refine g_block ?_ | refine g_ret ?_ | refine g_return_n ?_ | refine g_exit ?_ | refine g_skip ?_)
      repeat (first | refine g_endt ?_ | refine g_end ?_ | refine g_then ?_ | refine g_in_normal ?_ | refine g_then_ret ?_ | refine g_in_ret ?_ | refine g_then_exit ?_ | refine g_in_exit rfl ?_ | refine g_in_exit_ne (by decide) ?_ | refine g_seq ?_ | refine g_region ?_ | refine g_block ?_ | refine g_ret ?_ | refine g_return_n ?_ | refine g_exit ?_ | refine g_skip ?_)
      refine g_hideR fun Q_ hQ_ => ?_
      refine o_add (c := ((i2 + 1 : Nat) : Int)) rfl rfl (by omega) (by omega) (by omega) ?_
      refine o_move ?_
      refine g_end (G.imp (hQ_ .normal _) ?_)
      clear hQ_ Q_
      try refine g_then ?_
      repeat (first | refine g_endt ?_ | refine g_end ?_ | refine g_then ?_ | refine g_in_normal ?_ | refine g_then_ret ?_ | refine g_in_ret ?_ | refine g_then_exit ?_ | refine g_in_exit rfl ?_ | refine g_in_exit_ne (by decide) ?_ | refine g_seq ?_ | refine g_region ?_ | refine g_block ?_ | refine g_ret ?_ | refine g_return_n ?_ | refine g_exit ?_ | refine g_skip ?_)
      exact g_meets ⟨(i2 + 1, S2, s2), hin2⟩ (by show ps.length - (i2 + 1) < ps.length - i2; omega) (Sat.mem ⟨rfl, rfl, by rw [hft, List.length_append]; rfl, rfl, rfl, rfl, trivial⟩) (t := by
        show Take _ [mC m room a ps.length c0 mp, psl encP 16 a ps, MapASP mp zs, pslots zs ps, oP A c l, oP S2 s2 ((ps.take (i2 + 1)).filter fun q => !l.any fun p => takesP p q)] _
        rw [hft]; infer_instance)
  first | refine g_seq (g_cond_f rfl (by simp; omega) ?_) | refine g_cond_f rfl (by simp; omega) ?_
  rw [List.take_of_length_le (by omega)] at hol ⊢
  have hout : outP ps l = (ps.filter fun q => !l.any fun p => takesP p q) ++ l.filter fun p => !rejP p := rfl
  generalize (ps.filter fun q => !l.any fun p => takesP p q) = us at hol hout ⊢
  repeat (first | refine g_endt ?_ | refine g_end ?_ | refine g_then ?_ | refine g_in_normal ?_ | refine g_then_ret ?_ | refine g_in_ret ?_ | refine g_then_exit ?_ | refine g_in_exit rfl ?_ | refine g_in_exit_ne (by decide) ?_ | refine g_seq ?_ | refine g_region ?_ | refine g_block ?_ | refine g_ret ?_ | refine g_return_n ?_ | refine g_exit ?_ | refine g_skip ?_)
  refine g_hideR fun Q_ hQ_ => ?_
  refine o_move ?_
  refine o_len rfl rfl ?_
  refine o_move ?_
  refine g_end (G.imp (hQ_ .normal _) ?_)
  clear hQ_ Q_
  try refine g_then ?_
  repeat (first | refine g_endt ?_ | refine g_end ?_ | refine g_then ?_ | refine g_in_normal ?_ | refine g_then_ret ?_ | refine g_in_ret ?_ | refine g_then_exit ?_ | refine g_in_exit rfl ?_ | refine g_in_exit_ne (by decide) ?_ | refine g_seq ?_ | refine g_region ?_ | refine g_block ?_ | refine g_ret ?_ | refine g_return_n ?_ | refine g_exit ?_ | refine g_skip ?_)
  refine g_loop (σ := {t : Nat × Option Addr × Nat // t.1 ≤ n}) (S := fun t => [(0, .pointer (some ⟨m, 0, none⟩)), (1, .slice A n c), (7, .slice t.1.2.1 (us ++ (l.take t.1.1).filter fun p => !rejP p).length t.1.2.2), (54, .slice A n c), (55, .int .i64 (n : Int)), (56, .int .i64 (t.1.1 : Int))])
    (H := fun t => [mC m room a ps.length c0 mp, psl encP 16 a ps, MapASP mp zs, pslots zs ps, oP A c l, oP t.1.2.1 t.1.2.2 (us ++ (l.take t.1.1).filter fun p => !rejP p)]) (μ := fun t => n - t.1.1) (s0 := ⟨(0, S, s), Nat.zero_le _⟩) (Sat.mem ⟨rfl, rfl, by simp; rfl, rfl, rfl, rfl, trivial⟩) (t := by
      show Take _ [mC m room a ps.length c0 mp, psl encP 16 a ps, MapASP mp zs, pslots zs ps, oP A c l, oP S s (us ++ [])] _
      rw [List.append_nil]; infer_instance) ?_
  rintro ⟨⟨i3, S3, s3⟩, hi3⟩ ρ4
  dsimp only at hi3 ⊢
  have hfl3 : ((l.take i3).filter fun p => !rejP p).length ≤ i3 := Nat.le_trans (List.length_filter_le _ _) (by simp; omega)
  repeat (first | refine g_endt ?_ | refine g_end ?_ | refine g_then ?_ | refine g_in_normal ?_ | refine g_then_ret ?_ | refine g_in_ret ?_ | refine g_then_exit ?_ | refine g_in_exit rfl ?_ | refine g_in_exit_ne (by decide) ?_ | refine g_seq ?_ | refine g_region ?_ | refine g_block ?_ | refine g_ret ?_ | refine g_return_n ?_ | refine g_exit ?_ | refine g_skip ?_)
  refine g_hideR fun Q_ hQ_ => ?_
  refine o_lss rfl rfl ?_
  refine g_end (G.imp (hQ_ .normal _) ?_)
  clear hQ_ Q_
  try refine g_then ?_
  by_cases hin3 : i3 < n
  · first | refine g_seq (g_cond_t rfl (by first | rfl | (simp; done) | (simp; omega) | (simp; assumption)) ?_) | refine g_cond_t rfl (by first | rfl | (simp; done) | (simp; omega) | (simp; assumption)) ?_
    obtain ⟨x, hx⟩ : ∃ x, l[i3]? = some x := ⟨_, List.getElem?_eq_getElem (by omega)⟩
    have hft := filter_take (fun p => !rejP p) hx
    obtain ⟨rj, hrj⟩ : ∃ rj, rejP x = rj := ⟨_, rfl⟩
    have hrs := rejects_spec x
    rw [hrj] at hrs hft
    have hfu : us ++ (l.take (i3 + 1)).filter (fun p => !rejP p) = (us ++ (l.take i3).filter fun p => !rejP p) ++ if (!rj) = true then [x] else [] := by rw [hft, List.append_assoc]
    have hlu : (us ++ (l.take i3).filter fun p => !rejP p).length ≤ 20000 := by rw [List.length_append]; omega
    generalize (us ++ (l.take i3).filter fun p => !rejP p) = os at hfu hlu ⊢
    repeat (first | refine g_endt ?_ | refine g_end ?_ | refine g_then ?_ | refine g_in_normal ?_ | refine g_then_ret ?_ | refine g_in_ret ?_ | refine g_then_exit ?_ | refine g_in_exit rfl ?_ | refine g_in_exit_ne (by decide) ?_ | refine g_seq ?_ | refine g_region ?_ | refine g_block ?_ | refine g_ret ?_ | refine g_return_n ?_ | refine g_exit ?_ | refine g_skip ?_)
    repeat (first | refine g_endt ?_ | refine g_end ?_ | refine g_then ?_ | refine g_in_normal ?_ | refine g_then_ret ?_ | refine g_in_ret ?_ | refine g_then_exit ?_ | refine g_in_exit rfl ?_ | refine g_in_exit_ne (by decide) ?_ | refine g_seq ?_ | refine g_region ?_ | refine g_block ?_ | refine g_ret ?_ | refine g_return_n ?_ | refine g_exit ?_ | refine g_skip ?_)
    refine g_hideR fun Q_ hQ_ => ?_
    refine o_indexR (ys := l) (i := i3) rfl rfl rfl (by omega) hl rfl ?_
    refine o_loadE (ys := l) rfl rfl hx ?_
    refine o_alloc fun c14 => ?_
    refine o_store (v := x.val) rfl rfl rfl rfl rfl ?_
    refine g_end (G.imp (hQ_ .normal _) ?_)
    clear hQ_ Q_
    try refine g_then ?_
    refine G.norm c14 x.val.cells rfl ?_
    repeat (first | refine g_endt ?_ | refine g_end ?_ | refine g_then ?_ | refine g_in_normal ?_ | refine g_then_ret ?_ | refine g_in_ret ?_ | refine g_then_exit ?_ | refine g_in_exit rfl ?_ | refine g_in_exit_ne (by decide) ?_ | refine g_seq ?_ | refine g_region ?_ | refine g_block ?_ | refine g_ret ?_ | refine g_return_n ?_ | refine g_exit ?_ | refine g_skip ?_)
    refine g_hideR fun Q_ hQ_ => ?_
    refine o_loadN (v := x.val) rfl rfl rfl ?_
    refine o_call (hrs) rfl rfl ?_
    rintro _ _ ⟨rfl, rfl⟩
    refine o_not rfl ?_
    refine g_end (G.imp (hQ_ .normal _) ?_)
    clear hQ_ Q_
    try refine g_then ?_
    cases rj with
    | true =>
      rw [if_neg (by decide), List.append_nil] at hfu
      first | refine g_seq (g_cond_f rfl (by first | rfl | (simp; done) | (simp; omega) | (simp; assumption)) ?_) | refine g_cond_f rfl (by first | rfl | (simp; done) | (simp; omega) | (simp; assumption)) ?_
      repeat (first | refine g_endt ?_ | refine g_end ?_ | refine g_then ?_ | refine g_in_normal ?_ | refine g_then_ret ?_ | refine g_in_ret ?_ | refine g_then_exit ?_ | refine g_in_exit rfl ?_ | refine g_in_exit_ne (by decide) ?_ | refine g_seq ?_ | refine g_region ?_ | refine g_block ?_ | refine g_ret ?_ | refine g_return_n ?_ | refine g_exit ?_ | refine g_skip ?_)
      repeat (first | refine g_endt ?_ | refine g_end ?_ | refine g_then ?_ | refine g_in_normal ?_ | refine g_then_ret ?_ | refine g_in_ret ?_ | refine g_then_exit ?_ | refine g_in_exit rfl ?_ | refine g_in_exit_ne (by decide) ?_ | refine g_seq ?_ | refine g_region ?_ | refine g_block ?_ | refine g_ret ?_ | refine g_return_n ?_ | refine g_exit ?_ | refine g_skip ?_)
      refine g_hideR fun Q_ hQ_ => ?_
      refine o_add (c := ((i3 + 1 : Nat) : Int)) rfl rfl (by omega) (by omega) (by omega) ?_
      refine o_move ?_
      refine g_end (G.imp (hQ_ .normal _) ?_)
      clear hQ_ Q_
      try refine g_then ?_
      repeat (first | refine g_endt ?_ | refine g_end ?_ | refine g_then ?_ | refine g_in_normal ?_ | refine g_then_ret ?_ | refine g_in_ret ?_ | refine g_then_exit ?_ | refine g_in_exit rfl ?_ | refine g_in_exit_ne (by decide) ?_ | refine g_seq ?_ | refine g_region ?_ | refine g_block ?_ | refine g_ret ?_ | refine g_return_n ?_ | refine g_exit ?_ | refine g_skip ?_)
      exact g_meets ⟨(i3 + 1, S3, s3), hin3⟩ (by show n - (i3 + 1) < n - i3; omega) (Sat.mem ⟨rfl, rfl, by rw [hfu]; rfl, rfl, rfl, rfl, trivial⟩) (t := by
        show Take _ [mC m room a ps.length c0 mp, psl encP 16 a ps, MapASP mp zs, pslots zs ps, oP A c l, oP S3 s3 (us ++ (l.take (i3 + 1)).filter fun p => !rejP p)] _
        rw [hfu]; infer_instance)
    | false =>
      rw [if_pos (by decide)] at hfu
      first | refine g_seq (g_cond_t rfl (by first | rfl | (simp; done) | (simp; omega) | (simp; assumption)) ?_) | refine g_cond_t rfl (by first | rfl | (simp; done) | (simp; omega) | (simp; assumption)) ?_
      repeat (first | refine g_endt ?_ | refine g_end ?_ | refine g_then ?_ | refine g_in_normal ?_ | refine g_then_ret ?_ | refine g_in_ret ?_ | refine g_then_exit ?_ | refine g_in_exit rfl ?_ | refine g_in_exit_ne (by decide) ?_ | refine g_seq ?_ | refine g_region ?_ | refine g_block ?_ | refine g_ret ?_ | refine g_return_n ?_ | refine g_exit ?_ | refine g_skip ?_)
      refine g_hideR fun Q_ hQ_ => ?_
      refine o_move ?_
      refine o_loadN (v := x.val) rfl rfl rfl ?_
      refine o_litP (e := 41) encP [x] (x).val.cells (fun w => by kernel_rfl) (by simp [encP]) (by simp [maxLen]) fun _ => ?_
      refine o_append (xs := os) (ys := [x]) (by first | rfl | (simp only [List.length_map, List.length_take, List.length_append]; first | rfl | (congr 1; omega))) rfl rfl rfl rfl (fun _ => .inr trivial) (by simp [maxLen]; omega) (by simp; omega) fun S2 s2 => ?_
      refine o_assign ?_
      refine g_end (G.imp (hQ_ .normal _) ?_)
      clear hQ_ Q_
      try refine g_then ?_
      repeat (first | refine g_endt ?_ | refine g_end ?_ | refine g_then ?_ | refine g_in_normal ?_ | refine g_then_ret ?_ | refine g_in_ret ?_ | refine g_then_exit ?_ | refine g_in_exit rfl ?_ | refine g_in_exit_ne (by decide) ?_ | refine g_seq ?_ | refine g_region ?_ | refine g_block ?_ | refine g_ret ?_ | refine g_return_n ?_ | refine g_exit ?_ | refine g_skip ?_)
      repeat (first | refine g_endt ?_ | refine g_end ?_ | refine g_then ?_ | refine g_in_normal ?_ | refine g_then_ret ?_ | refine g_in_ret ?_ | refine g_then_exit ?_ | refine g_in_exit rfl ?_ | refine g_in_exit_ne (by decide) ?_ | refine g_seq ?_ | refine g_region ?_ | refine g_block ?_ | refine g_ret ?_ | refine g_return_n ?_ | refine g_exit ?_ | refine g_skip ?_)
      refine g_hideR fun Q_ hQ_ => ?_
      refine o_add (c := ((i3 + 1 : Nat) : Int)) rfl rfl (by omega) (by omega) (by omega) ?_
      refine o_move ?_
      refine g_end (G.imp (hQ_ .normal _) ?_)
      clear hQ_ Q_
      try refine g_then ?_
      repeat (first | refine g_endt ?_ | refine g_end ?_ | refine g_then ?_ | refine g_in_normal ?_ | refine g_then_ret ?_ | refine g_in_ret ?_ | refine g_then_exit ?_ | refine g_in_exit rfl ?_ | refine g_in_exit_ne (by decide) ?_ | refine g_seq ?_ | refine g_region ?_ | refine g_block ?_ | refine g_ret ?_ | refine g_return_n ?_ | refine g_exit ?_ | refine g_skip ?_)
      exact g_meets ⟨(i3 + 1, S2, s2), hin3⟩ (by show n - (i3 + 1) < n - i3; omega) (Sat.mem ⟨rfl, rfl, by rw [hfu, List.length_append]; rfl, rfl, rfl, rfl, trivial⟩) (t := by
        show Take _ [mC m room a ps.length c0 mp, psl encP 16 a ps, MapASP mp zs, pslots zs ps, oP A c l, oP S2 s2 (us ++ (l.take (i3 + 1)).filter fun p => !rejP p)] _
        rw [hfu]; infer_instance)
  first | refine g_seq (g_cond_f rfl (by simp; omega) ?_) | refine g_cond_f rfl (by simp; omega) ?_
  rw [List.take_of_length_le (by omega)] at hfl3 ⊢
  have hlen : (outP ps l).length ≤ 20000 := by rw [hout, List.length_append]; omega
  rw [← hout]
  by_cases hov : room < ((outP ps l).length : Int)
  · rw [addR_full hall hov]
    generalize outP ps l = os at hlen hov ⊢
    repeat (first | refine g_endt ?_ | refine g_end ?_ | refine g_then ?_ | refine g_in_normal ?_ | refine g_then_ret ?_ | refine g_in_ret ?_ | refine g_then_exit ?_ | refine g_in_exit rfl ?_ | refine g_in_exit_ne (by decide) ?_ | refine g_seq ?_ | refine g_region ?_ | refine g_block ?_ | refine g_ret ?_ | refine g_return_n ?_ | refine g_exit ?_ | refine g_skip ?_)
    refine g_hideR fun Q_ hQ_ => ?_
    refine o_move ?_
    refine o_len rfl rfl ?_
    refine o_move ?_
    refine o_nil rfl ?_
    first | refine o_field rfl ?_ | refine o_fieldR rfl (by omega) ?_
    refine o_load1 (v := .int .i64 room) rfl rfl ?_
    refine o_gtr rfl rfl ?_
    refine g_end (G.imp (hQ_ .normal _) ?_)
    clear hQ_ Q_
    try refine g_then ?_
    first | refine g_seq (g_cond_t rfl (by simpa using hov) ?_) | refine g_cond_t rfl (by simpa using hov) ?_
    refine shutMm m room ps a c0 mp zs hI rfl ?_
    repeat (first | refine g_endt ?_ | refine g_end ?_ | refine g_then ?_ | refine g_in_normal ?_ | refine g_then_ret ?_ | refine g_in_ret ?_ | refine g_then_exit ?_ | refine g_in_exit rfl ?_ | refine g_in_exit_ne (by decide) ?_ | refine g_seq ?_ | refine g_region ?_ | refine g_block ?_ | refine g_ret ?_ | refine g_return_n ?_ | refine g_exit ?_ | refine g_skip ?_)
    refine g_hideR fun Q_ hQ_ => ?_
    refine o_assign ?_
    refine g_end (G.imp (hQ_ .normal _) ?_)
    clear hQ_ Q_
    try refine g_then ?_
    repeat (first | refine g_endt ?_ | refine g_end ?_ | refine g_then ?_ | refine g_in_normal ?_ | refine g_then_ret ?_ | refine g_in_ret ?_ | refine g_then_exit ?_ | refine g_in_exit rfl ?_ | refine g_in_exit_ne (by decide) ?_ | refine g_seq ?_ | refine g_region ?_ | refine g_block ?_ | refine g_ret ?_ | refine g_return_n ?_ | refine g_exit ?_ | refine g_skip ?_)
    exact ret1 (K := [MemP m room ps, oP A c l]) rfl (resT (v := .int .i64 21) rfl) ⟨rfl, rfl⟩
  · rw [addR_ok hall hov]
    generalize outP ps l = os at hlen hov ⊢
    repeat (first | refine g_endt ?_ | refine g_end ?_ | refine g_then ?_ | refine g_in_normal ?_ | refine g_then_ret ?_ | refine g_in_ret ?_ | refine g_then_exit ?_ | refine g_in_exit rfl ?_ | refine g_in_exit_ne (by decide) ?_ | refine g_seq ?_ | refine g_region ?_ | refine g_block ?_ | refine g_ret ?_ | refine g_return_n ?_ | refine g_exit ?_ | refine g_skip ?_)
    refine g_hideR fun Q_ hQ_ => ?_
    refine o_move ?_
    refine o_len rfl rfl ?_
    refine o_move ?_
    refine o_nil rfl ?_
    first | refine o_field rfl ?_ | refine o_fieldR rfl (by omega) ?_
    refine o_load1 (v := .int .i64 room) rfl rfl ?_
    refine o_gtr rfl rfl ?_
    refine g_end (G.imp (hQ_ .normal _) ?_)
    clear hQ_ Q_
    try refine g_then ?_
    first | refine g_seq (g_cond_f rfl (by simpa using hov) ?_) | refine g_cond_f rfl (by simpa using hov) ?_
    refine G.bring [oP S3 s3 os] (G.frz ?_)
    repeat (first | refine g_endt ?_ | refine g_end ?_ | refine g_then ?_ | refine g_in_normal ?_ | refine g_then_ret ?_ | refine g_in_ret ?_ | refine g_then_exit ?_ | refine g_in_exit rfl ?_ | refine g_in_exit_ne (by decide) ?_ | refine g_seq ?_ | refine g_region ?_ | refine g_block ?_ | refine g_ret ?_ | refine g_return_n ?_ | refine g_exit ?_ | refine g_skip ?_)
    repeat (first | refine g_endt ?_ | refine g_end ?_ | refine g_then ?_ | refine g_in_normal ?_ | refine g_then_ret ?_ | refine g_in_ret ?_ | refine g_then_exit ?_ | refine g_in_exit rfl ?_ | refine g_in_exit_ne (by decide) ?_ | refine g_seq ?_ | refine g_region ?_ | refine g_block ?_ | refine g_ret ?_ | refine g_return_n ?_ | refine g_exit ?_ | refine g_skip ?_)
    refine g_hideR fun Q_ hQ_ => ?_
    refine o_move ?_
    refine o_move ?_
    refine o_call (set17_spec m room a ps.length c0 (some ⟨mp, 0, none⟩) S3 os.length s3 os rfl (by omega)) rfl rfl ?_
    rintro _ _ rfl
    refine g_end (G.imp (hQ_ .normal _) ?_)
    clear hQ_ Q_
    try refine g_then ?_
    repeat (first | refine g_endt ?_ | refine g_end ?_ | refine g_then ?_ | refine g_in_normal ?_ | refine g_then_ret ?_ | refine g_in_ret ?_ | refine g_then_exit ?_ | refine g_in_exit rfl ?_ | refine g_in_exit_ne (by decide) ?_ | refine g_seq ?_ | refine g_region ?_ | refine g_block ?_ | refine g_ret ?_ | refine g_return_n ?_ | refine g_exit ?_ | refine g_skip ?_)
    refine g_hideR fun Q_ hQ_ => ?_
    refine o_assign ?_
    refine g_end (G.imp (hQ_ .normal _) ?_)
    clear hQ_ Q_
    try refine g_then ?_
    repeat (first | refine g_endt ?_ | refine g_end ?_ | refine g_then ?_ | refine g_in_normal ?_ | refine g_then_ret ?_ | refine g_in_ret ?_ | refine g_then_exit ?_ | refine g_in_exit rfl ?_ | refine g_in_exit_ne (by decide) ?_ | refine g_seq ?_ | refine g_region ?_ | refine g_block ?_ | refine g_ret ?_ | refine g_return_n ?_ | refine g_exit ?_ | refine g_skip ?_)
    exact ret1 (K := [MemP m room os, oP A c l]) rfl (resT (v := .int .i64 0) rfl) ⟨rfl, rfl⟩
theorem Add17OK_spec (m : Nat) (room : Int) (ps : List PrefD) (A : Option Addr) (n c : Nat) (l : List PrefD) (hl : l.length = n) (hm : n ≤ 10000) (hp : ps.length ≤ 10000) (hsm : ∀ p ∈ l, p.small) {v0 : Int} {ps' : List PrefD} (h : addR room ps l = (v0, ps')) :
    Ctr Tryz.prog 15 [.pointer (some ⟨m, 0, none⟩), .slice A n c] [MemP m room ps, oP A c l] (fun v M => v = .int .i64 v0 ∧ M = [MemP m room ps', oP A c l]) := by
  have := Add17O_spec m room ps A n c l hl hm hp hsm
  rwa [h] at this
theorem AddR15K_spec (r : Nat) (room : Int) (ps : List PrefD) (A : Option Addr) (n c : Nat) (l : List PrefD) (hl : l.length = n) (hm : n ≤ 10000) (hp : ps.length ≤ 10000) (hsm : ∀ p ∈ l, p.small) {v0 : Int} {ps' : List PrefD} (h : addR room ps l = (v0, ps')) :
    Ctr Tryz.prog 31 [.pointer (some ⟨r, 0, none⟩), .slice A n c] [RefM r room ps, psl encP 16 A l] (fun v M => v = .int .i64 v0 ∧ M = [RefM r room ps']) := by
  have := AddR15_spec r room ps A n c l hl hm hp hsm
  rwa [h] at this
end Go.Proofs.YtonaccfoelgpnaaGreat
/- Numbers within bounds. -/
namespace Go.Proofs.YtonaccfoelgpnaaGreat
open Go Go.Sl
attribute [local irreducible] Code.wpIn roundPost bodyPostM runL Ret Meets Begin

theorem within_tmod (a : Int) (n : Nat) (hn : 0 < n) : (if a.tmod n < 0 then a.tmod n + n else a.tmod n) = ((a % (n : Int)).toNat : Int) ∧ -(n : Int) < a.tmod n ∧ a.tmod n < n := by
  have h0 : 0 ≤ a % (n : Int) := Int.emod_nonneg _ (by omega)
  have h1 : a % (n : Int) < n := Int.emod_lt_of_pos _ (by omega)
  rw [Int.toNat_of_nonneg h0, Int.tmod_eq_emod]
  by_cases hc : 0 ≤ a ∨ (n : Int) ∣ a
  · rw [if_pos hc]
    exact ⟨by rw [if_neg (by omega)]; omega, by omega, by omega⟩
  · rw [if_neg hc]
    simp only [Int.natAbs_natCast]
    have h3 : a % (n : Int) ≠ 0 := fun e => hc (.inr (Int.dvd_of_emod_eq_zero e))
    exact ⟨by rw [if_pos (by omega)]; omega, by omega, by omega⟩
theorem Within_spec (a : Int) (n : Nat) (hn : 0 < n) (hn2 : n ≤ 1000000000) : Ctr Tryz.prog 23 [.int .i64 a, .int .i64 (n : Int)] [] (fun v M => v = .int .i64 ((a % (n : Int)).toNat : Int) ∧ M = []) := by
  obtain ⟨h1, h2, h3⟩ := within_tmod a n hn
  refine spec_of Tryz.func23 rfl Tryz.ntmps23 rfl fun w0 F => ?_
  -- ponder/ponderkeep.Within
  repeat (first | refine g_endt ?_ | refine g_end ?_ | refine g_then ?_ | refine g_in_normal ?_ | refine g_then_ret ?_ | refine g_in_ret ?_ | refine g_then_exit ?_ | refine g_in_exit rfl ?_ | refine g_in_exit_ne (by decide) ?_ | refine g_seq ?_ | refine g_region ?_ | refine g_block ?_ | refine g_ret ?_ | refine g_return_n ?_ | refine g_exit ?_ | refine g_skip ?_)
  refine o_assign ?_
  first | refine g_endt ?_ | refine g_end ?_
  repeat (first | refine g_endt ?_ | refine g_end ?_ | refine g_then ?_ | refine g_in_normal ?_ | refine g_then_ret ?_ | refine g_in_ret ?_ | refine g_then_exit ?_ | refine g_in_exit rfl ?_ | refine g_in_exit_ne (by decide) ?_ | refine g_seq ?_ | refine g_region ?_ | refine g_block ?_ | refine g_ret ?_ | refine g_return_n ?_ | refine g_exit ?_ | refine g_skip ?_)
  refine o_move ?_
  refine o_lss rfl rfl ?_
  first | refine g_endt ?_ | refine g_end ?_
  first | refine g_seq (g_cond_f rfl (by simp; omega) ?_) | refine g_cond_f rfl (by simp; omega) ?_
  repeat (first | refine g_endt ?_ | refine g_end ?_ | refine g_then ?_ | refine g_in_normal ?_ | refine g_then_ret ?_ | refine g_in_ret ?_ | refine g_then_exit ?_ | refine g_in_exit rfl ?_ | refine g_in_exit_ne (by decide) ?_ | refine g_seq ?_ | refine g_region ?_ | refine g_block ?_ | refine g_ret ?_ | refine g_return_n ?_ | refine g_exit ?_ | refine g_skip ?_)
  refine o_move ?_
  refine o_move ?_
  refine o_rem rfl rfl (by omega) ?_
  refine o_assign ?_
  first | refine g_endt ?_ | refine g_end ?_
  generalize a.tmod n = t at h1 h2 h3 ⊢
  repeat (first | refine g_endt ?_ | refine g_end ?_ | refine g_then ?_ | refine g_in_normal ?_ | refine g_then_ret ?_ | refine g_in_ret ?_ | refine g_then_exit ?_ | refine g_in_exit rfl ?_ | refine g_in_exit_ne (by decide) ?_ | refine g_seq ?_ | refine g_region ?_ | refine g_block ?_ | refine g_ret ?_ | refine g_return_n ?_ | refine g_exit ?_ | refine g_skip ?_)
  refine o_move ?_
  refine o_lss rfl rfl ?_
  first | refine g_endt ?_ | refine g_end ?_
  by_cases h : t < 0
  · first | refine g_seq (g_cond_t rfl (by simpa using h) ?_) | refine g_cond_t rfl (by simpa using h) ?_
    rw [if_pos h] at h1
    repeat (first | refine g_endt ?_ | refine g_end ?_ | refine g_then ?_ | refine g_in_normal ?_ | refine g_then_ret ?_ | refine g_in_ret ?_ | refine g_then_exit ?_ | refine g_in_exit rfl ?_ | refine g_in_exit_ne (by decide) ?_ | refine g_seq ?_ | refine g_region ?_ | refine g_block ?_ | refine g_ret ?_ | refine g_return_n ?_ | refine g_exit ?_ | refine g_skip ?_)
    refine o_move ?_
    refine o_move ?_
    refine o_add (c := ((a % (n : Int)).toNat : Int)) rfl rfl h1 (by omega) (by omega) ?_
    refine o_assign ?_
    first | refine g_endt ?_ | refine g_end ?_
    repeat (first | refine g_endt ?_ | refine g_end ?_ | refine g_then ?_ | refine g_in_normal ?_ | refine g_then_ret ?_ | refine g_in_ret ?_ | refine g_then_exit ?_ | refine g_in_exit rfl ?_ | refine g_in_exit_ne (by decide) ?_ | refine g_seq ?_ | refine g_region ?_ | refine g_block ?_ | refine g_ret ?_ | refine g_return_n ?_ | refine g_exit ?_ | refine g_skip ?_)
    refine o_move ?_
    refine o_assign ?_
    first | refine g_endt ?_ | refine g_end ?_
    repeat (first | refine g_endt ?_ | refine g_end ?_ | refine g_then ?_ | refine g_in_normal ?_ | refine g_then_ret ?_ | refine g_in_ret ?_ | refine g_then_exit ?_ | refine g_in_exit rfl ?_ | refine g_in_exit_ne (by decide) ?_ | refine g_seq ?_ | refine g_region ?_ | refine g_block ?_ | refine g_ret ?_ | refine g_return_n ?_ | refine g_exit ?_ | refine g_skip ?_)
    exact ret1 rfl (resT rfl) ⟨rfl, rfl⟩
  · first | refine g_seq (g_cond_f rfl (by simpa using h) ?_) | refine g_cond_f rfl (by simpa using h) ?_
    rw [if_neg h] at h1
    repeat (first | refine g_endt ?_ | refine g_end ?_ | refine g_then ?_ | refine g_in_normal ?_ | refine g_then_ret ?_ | refine g_in_ret ?_ | refine g_then_exit ?_ | refine g_in_exit rfl ?_ | refine g_in_exit_ne (by decide) ?_ | refine g_seq ?_ | refine g_region ?_ | refine g_block ?_ | refine g_ret ?_ | refine g_return_n ?_ | refine g_exit ?_ | refine g_skip ?_)
    refine o_move ?_
    refine o_assign ?_
    first | refine g_endt ?_ | refine g_end ?_
    repeat (first | refine g_endt ?_ | refine g_end ?_ | refine g_then ?_ | refine g_in_normal ?_ | refine g_then_ret ?_ | refine g_in_ret ?_ | refine g_then_exit ?_ | refine g_in_exit rfl ?_ | refine g_in_exit_ne (by decide) ?_ | refine g_seq ?_ | refine g_region ?_ | refine g_block ?_ | refine g_ret ?_ | refine g_return_n ?_ | refine g_exit ?_ | refine g_skip ?_)
    rw [h1]
    exact ret1 rfl (resT rfl) ⟨rfl, rfl⟩
end Go.Proofs.YtonaccfoelgpnaaGreat
/- Preferences held against each other. -/
namespace Go.Proofs.YtonaccfoelgpnaaGreat
open Go Go.Sl

def PrefD.beq (a b : PrefD) : Bool := a.id.beq b.id && (a.attr.beq b.attr && (a.value.beq b.value && (a.other.beq b.other && (a.kind == b.kind && (a.o == b.o && (a.level == b.level && (a.by_ == b.by_ && true)))))))
theorem eq_pref (a b : PrefD) : EqTy Tryz.prog 41 a.val b.val (a.beq b) := eqTy_of (by kernel_rfl) fun w =>
  equalIn_of (l := [(39, 0), (39, 3), (39, 6), (39, 9), (3, 12), (4, 13), (3, 14), (3, 15)]) (by kernel_rfl) (by kernel_rfl) (by kernel_rfl) (by kernel_rfl)
    ⟨a.id.val, b.id.val, _, _, by kernel_rfl, by kernel_rfl, eqIn_sym 9997 _ _ w,
      ⟨a.attr.val, b.attr.val, _, _, by kernel_rfl, by kernel_rfl, eqIn_sym 9997 _ _ w,
        ⟨a.value.val, b.value.val, _, _, by kernel_rfl, by kernel_rfl, eqIn_sym 9997 _ _ w,
          ⟨a.other.val, b.other.val, _, _, by kernel_rfl, by kernel_rfl, eqIn_sym 9997 _ _ w,
            ⟨.int .i64 a.kind, .int .i64 b.kind, _, _, by kernel_rfl, by kernel_rfl, run_equalIn_int w 9998 _ _ .i64 _ _ (by kernel_rfl),
              ⟨.bool a.o, .bool b.o, _, _, by kernel_rfl, by kernel_rfl, run_equalIn_bool' w 9998 _ _ _ (by kernel_rfl),
                ⟨.int .i64 a.level, .int .i64 b.level, _, _, by kernel_rfl, by kernel_rfl, run_equalIn_int w 9998 _ _ .i64 _ _ (by kernel_rfl),
                  ⟨.int .i64 a.by_, .int .i64 b.by_, _, _, by kernel_rfl, by kernel_rfl, run_equalIn_int w 9998 _ _ .i64 _ _ (by kernel_rfl), rfl, rfl⟩, rfl⟩, rfl⟩, rfl⟩, rfl⟩, rfl⟩, rfl⟩, rfl⟩
theorem PrefD.beq_self (a : PrefD) : a.beq a = true := by
  have h : ∀ s : SymD, s.beq s = true := fun s => (SymD.beq_iff s s).2 rfl
  simp [PrefD.beq, h]
end Go.Proofs.YtonaccfoelgpnaaGreat
/- Two lists that read the same. -/
namespace Go.Proofs.YtonaccfoelgpnaaGreat
open Go Go.Sl
attribute [local irreducible] Code.wpIn roundPost bodyPostM runL Ret Meets Begin

theorem Prefs_spec (A B : Option Addr) (len cap cap' : Nat) (ys : List PrefD) (hl : ys.length = len) (hm : len ≤ 1000000000) : Ctr Tryz.prog 10 [.slice A len cap, .slice B len cap'] [psl encP 16 A ys, psl encP 16 B ys]
    (fun v M => v = .bool true ∧ M = []) := by
  refine spec_of Tryz.func10 rfl Tryz.ntmps10 rfl fun w0 F => ?_
  -- ponder/ponderkeep.Prefs
  repeat (first | refine g_endt ?_ | refine g_end ?_ | refine g_then ?_ | refine g_in_normal ?_ | refine g_then_ret ?_ | refine g_in_ret ?_ | refine g_then_exit ?_ | refine g_in_exit rfl ?_ | refine g_in_exit_ne (by decide) ?_ | refine g_seq ?_ | refine g_region ?_ | refine g_block ?_ | refine g_ret ?_ | refine g_return_n ?_ | refine g_exit ?_ | refine g_skip ?_)
  refine o_assign ?_
  first | refine g_endt ?_ | refine g_end ?_
  repeat (first | refine g_endt ?_ | refine g_end ?_ | refine g_then ?_ | refine g_in_normal ?_ | refine g_then_ret ?_ | refine g_in_ret ?_ | refine g_then_exit ?_ | refine g_in_exit rfl ?_ | refine g_in_exit_ne (by decide) ?_ | refine g_seq ?_ | refine g_region ?_ | refine g_block ?_ | refine g_ret ?_ | refine g_return_n ?_ | refine g_exit ?_ | refine g_skip ?_)
  refine o_move ?_
  refine o_len rfl rfl ?_
  refine o_move ?_
  refine o_len rfl rfl ?_
  refine o_neq rfl rfl ?_
  first | refine g_endt ?_ | refine g_end ?_
  first | refine g_seq (g_cond_f rfl (by first | rfl | (simp; done) | (simp; omega) | (simp; assumption)) ?_) | refine g_cond_f rfl (by first | rfl | (simp; done) | (simp; omega) | (simp; assumption)) ?_
  repeat (first | refine g_endt ?_ | refine g_end ?_ | refine g_then ?_ | refine g_in_normal ?_ | refine g_then_ret ?_ | refine g_in_ret ?_ | refine g_then_exit ?_ | refine g_in_exit rfl ?_ | refine g_in_exit_ne (by decide) ?_ | refine g_seq ?_ | refine g_region ?_ | refine g_block ?_ | refine g_ret ?_ | refine g_return_n ?_ | refine g_exit ?_ | refine g_skip ?_)
  refine o_assign ?_
  first | refine g_endt ?_ | refine g_end ?_
  repeat (first | refine g_endt ?_ | refine g_end ?_ | refine g_then ?_ | refine g_in_normal ?_ | refine g_then_ret ?_ | refine g_in_ret ?_ | refine g_then_exit ?_ | refine g_in_exit rfl ?_ | refine g_in_exit_ne (by decide) ?_ | refine g_seq ?_ | refine g_region ?_ | refine g_block ?_ | refine g_ret ?_ | refine g_return_n ?_ | refine g_exit ?_ | refine g_skip ?_)
  refine g_loop (σ := {i : Nat // i ≤ ys.length}) (S := fun i => [(0, .slice A len cap), (1, .slice B len cap'), (5, .int .i64 ((i.1 : Nat) : Int))])
    (H := fun i => [psl encP 16 A ys, psl encP 16 B ys]) (μ := fun i => ys.length - i.1) (s0 := ⟨0, Nat.zero_le _⟩) (Sat.mem ⟨rfl, rfl, rfl, trivial⟩) ?_
  rintro ⟨i, hi⟩ ρ'
  dsimp only
  repeat (first | refine g_endt ?_ | refine g_end ?_ | refine g_then ?_ | refine g_in_normal ?_ | refine g_then_ret ?_ | refine g_in_ret ?_ | refine g_then_exit ?_ | refine g_in_exit rfl ?_ | refine g_in_exit_ne (by decide) ?_ | refine g_seq ?_ | refine g_region ?_ | refine g_block ?_ | refine g_ret ?_ | refine g_return_n ?_ | refine g_exit ?_ | refine g_skip ?_)
  refine o_move ?_
  refine o_move ?_
  refine o_len rfl rfl ?_
  refine o_lss rfl rfl ?_
  first | refine g_endt ?_ | refine g_end ?_
  by_cases h : i < len
  · first | refine g_seq (g_cond_t rfl (by first | rfl | (simp; done) | (simp; omega) | (simp; assumption)) ?_) | refine g_cond_t rfl (by first | rfl | (simp; done) | (simp; omega) | (simp; assumption)) ?_
    have hi' : i < ys.length := by omega
    obtain ⟨e, hz⟩ : ∃ e, ys[i]? = some e := ⟨_, List.getElem?_eq_getElem hi'⟩
    repeat (first | refine g_endt ?_ | refine g_end ?_ | refine g_then ?_ | refine g_in_normal ?_ | refine g_then_ret ?_ | refine g_in_ret ?_ | refine g_then_exit ?_ | refine g_in_exit rfl ?_ | refine g_in_exit_ne (by decide) ?_ | refine g_seq ?_ | refine g_region ?_ | refine g_block ?_ | refine g_ret ?_ | refine g_return_n ?_ | refine g_exit ?_ | refine g_skip ?_)
    refine g_draw [] [0,1,2,3,4,5,6,7,8] [psl encP 16 A ys, psl encP 16 B ys] mixed rfl ?_
    refine ob_q rfl rfl ⟨_, fun X Q h => o_move (g_end (h _ _ ⟨rfl, rfl⟩)), ?_⟩
    refine ob_q rfl rfl ⟨_, fun X Q h => o_move (g_end (h _ _ ⟨rfl, rfl⟩)), ?_⟩
    refine ob_q rfl rfl ⟨_, fun X Q h => o_indexR rfl rfl rfl (by first | assumption | omega) (by first | rfl | assumption | omega) rfl (g_end (h _ _ ⟨rfl, rfl⟩)), ?_⟩
    first | refine ob_q rfl rfl ⟨_, fun X Q h => o_loadN rfl rfl rfl (g_end (h _ _ ⟨rfl, rfl⟩)), ?_⟩ | refine ob_q rfl rfl ⟨_, fun X Q h => o_loadE rfl rfl (by assumption) (g_end (h _ _ ⟨rfl, rfl⟩)), ?_⟩ | refine ob_q rfl rfl ⟨_, fun X Q h => o_loadEN rfl (by assumption) rfl rfl (g_end (h _ _ ⟨rfl, rfl⟩)), ?_⟩
    refine ob_q rfl rfl ⟨_, fun X Q h => o_move (g_end (h _ _ ⟨rfl, rfl⟩)), ?_⟩
    refine ob_q rfl rfl ⟨_, fun X Q h => o_move (g_end (h _ _ ⟨rfl, rfl⟩)), ?_⟩
    refine ob_q rfl rfl ⟨_, fun X Q h => o_indexR rfl rfl rfl (by first | assumption | omega) (by first | rfl | assumption | omega) rfl (g_end (h _ _ ⟨rfl, rfl⟩)), ?_⟩
    first | refine ob_q rfl rfl ⟨_, fun X Q h => o_loadN rfl rfl rfl (g_end (h _ _ ⟨rfl, rfl⟩)), ?_⟩ | refine ob_q rfl rfl ⟨_, fun X Q h => o_loadE rfl rfl (by assumption) (g_end (h _ _ ⟨rfl, rfl⟩)), ?_⟩ | refine ob_q rfl rfl ⟨_, fun X Q h => o_loadEN rfl (by assumption) rfl rfl (g_end (h _ _ ⟨rfl, rfl⟩)), ?_⟩
    refine ob_q rfl rfl ⟨_, fun X Q h => o_neqty rfl rfl (eq_pref e e) (g_end (h _ _ ⟨rfl, rfl⟩)), ?_⟩
    refine ob_nil ?_
    first | refine g_seq (g_cond_f rfl (by simp [PrefD.beq_self]) ?_) | refine g_cond_f rfl (by simp [PrefD.beq_self]) ?_
    repeat (first | refine g_endt ?_ | refine g_end ?_ | refine g_then ?_ | refine g_in_normal ?_ | refine g_then_ret ?_ | refine g_in_ret ?_ | refine g_then_exit ?_ | refine g_in_exit rfl ?_ | refine g_in_exit_ne (by decide) ?_ | refine g_seq ?_ | refine g_region ?_ | refine g_block ?_ | refine g_ret ?_ | refine g_return_n ?_ | refine g_exit ?_ | refine g_skip ?_)
    refine o_move ?_
    refine o_add (c := ((i + 1 : Nat) : Int)) rfl rfl (by omega) (by omega) (by omega) ?_
    refine o_assign ?_
    first | refine g_endt ?_ | refine g_end ?_
    repeat (first | refine g_endt ?_ | refine g_end ?_ | refine g_then ?_ | refine g_in_normal ?_ | refine g_then_ret ?_ | refine g_in_ret ?_ | refine g_then_exit ?_ | refine g_in_exit rfl ?_ | refine g_in_exit_ne (by decide) ?_ | refine g_seq ?_ | refine g_region ?_ | refine g_block ?_ | refine g_ret ?_ | refine g_return_n ?_ | refine g_exit ?_ | refine g_skip ?_)
    exact g_meets (⟨i + 1, hi'⟩) (by first | exact trivial | (dsimp only; omega)) (Sat.mem (by repeat (first | exact trivial | refine And.intro rfl ?_)))
  · first | refine g_seq (g_cond_f rfl (by simp; omega) ?_) | refine g_cond_f rfl (by simp; omega) ?_
    repeat (first | refine g_endt ?_ | refine g_end ?_ | refine g_then ?_ | refine g_in_normal ?_ | refine g_then_ret ?_ | refine g_in_ret ?_ | refine g_then_exit ?_ | refine g_in_exit rfl ?_ | refine g_in_exit_ne (by decide) ?_ | refine g_seq ?_ | refine g_region ?_ | refine g_block ?_ | refine g_ret ?_ | refine g_return_n ?_ | refine g_exit ?_ | refine g_skip ?_)
    refine o_assign ?_
    first | refine g_endt ?_ | refine g_end ?_
    repeat (first | refine g_endt ?_ | refine g_end ?_ | refine g_then ?_ | refine g_in_normal ?_ | refine g_then_ret ?_ | refine g_in_ret ?_ | refine g_then_exit ?_ | refine g_in_exit rfl ?_ | refine g_in_exit_ne (by decide) ?_ | refine g_seq ?_ | refine g_region ?_ | refine g_block ?_ | refine g_ret ?_ | refine g_return_n ?_ | refine g_exit ?_ | refine g_skip ?_)
    exact ret1 rfl (resT rfl) ⟨rfl, rfl⟩
end Go.Proofs.YtonaccfoelgpnaaGreat
/- Acts on preferences: too heavy ones, and what they leave. -/
namespace Go.Proofs.YtonaccfoelgpnaaGreat
open Go Go.Sl
attribute [local irreducible] Exit.then Exit.inBlock Code.wpIn roundPost bodyPostM runL Ret Meets MeetsD Begin

structure PaD where
  d : Int
  n : Int
  l : RowG PrefD
  r : RowG Int
  id : SymD
def PaD.val (q : PaD) : Value := .agg #[.int .i64 q.d, .int .i64 q.n, .slice q.l.a q.l.len q.l.cap, .slice q.r.a q.r.len q.r.cap, .int .i64 q.id.kind, .string q.id.text, .int .i64 q.id.n]
def encPA (q : PaD) : List Value := q.val.cells.toList
instance : EncLen encPA 7 := ⟨fun _ => rfl, fun e u h => by simp [encPA, PaD.val, Value.cells] at h; rcases h with h | h | h | h | h | h | h <;> subst h <;> rfl⟩
structure PaD.Ok (q : PaD) : Prop where
  ll : q.l.zs.length = q.l.len
  lm : q.l.len ≤ 9223372036854775807
  rl : q.r.zs.length = q.r.len
  rm : q.r.len ≤ 9223372036854775807
abbrev paK (A : Option Addr) (ys : List PaD) : List SProp := [psl encPA 7 A ys, prowsG encP 16 (ys.map PaD.l), prowsG encI 1 (ys.map PaD.r)]
def heavyQ (q : PaD) : Bool := !lightP q.l.zs 20 || decide (20 < q.r.len)
def heavyP (ys : List PaD) : Bool := decide (30 < ys.length) || ys.any heavyQ
theorem heavyP_no {ys : List PaD} (h : heavyP ys = false) : ys.length ≤ 30 ∧ ∀ q ∈ ys, lightP q.l.zs 20 = true ∧ q.r.len ≤ 20 := by
  unfold heavyP at h
  rw [Bool.or_eq_false_iff, decide_eq_false_iff_not, List.any_eq_false] at h
  refine ⟨by omega, fun q hq => ?_⟩
  have := h.2 q hq
  unfold heavyQ at this
  simp only [Bool.or_eq_true, Bool.not_eq_true', decide_eq_true_eq, not_or, Bool.not_eq_false] at this
  exact ⟨this.1, by omega⟩
set_option maxHeartbeats 1000000 in
theorem heavyP_spec (A : Option Addr) (n c : Nat) (ys : List PaD) (hl : ys.length = n) (hm : n ≤ 9223372036854775807) (hr : ∀ q ∈ ys, q.Ok) {b : Bool} (hb : heavyP ys = b) : Ctr Tryz.prog 7 [.slice A n c] (paK A ys) (fun v M => v = .bool b ∧ M = []) := by
  refine spec_of Tryz.func7 rfl Tryz.ntmps7 rfl fun w0 F => ?_
  -- hide
  -- ponder/ponderlaw17.heavy
  subst hb
  repeat (first | refine g_endt ?_ | refine g_end ?_ | refine g_then ?_ | refine g_in_normal ?_ | refine g_then_ret ?_ | refine g_in_ret ?_ | refine g_then_exit ?_ | refine g_in_exit rfl ?_ | refine g_in_exit_ne (by decide) ?_ | refine g_seq ?_ | refine g_region ?_ | refine g_block ?_ | refine g_ret ?_ | refine g_return_n ?_ | refine g_exit ?_ | refine g_skip ?_)
  refine g_hideR fun Q_ hQ_ => ?_
  refine o_assign ?_
  refine g_end (G.imp (hQ_ .normal _) ?_)
  clear hQ_ Q_
  try refine g_then ?_
  by_cases h1 : 30 < n
  · skip
    repeat (first | refine g_endt ?_ | refine g_end ?_ | refine g_then ?_ | refine g_in_normal ?_ | refine g_then_ret ?_ | refine g_in_ret ?_ | refine g_then_exit ?_ | refine g_in_exit rfl ?_ | refine g_in_exit_ne (by decide) ?_ | refine g_seq ?_ | refine g_region ?_ | refine g_block ?_ | refine g_ret ?_ | refine g_return_n ?_ | refine g_exit ?_ | refine g_skip ?_)
    refine g_hideR fun Q_ hQ_ => ?_
    refine o_move ?_
    refine o_len rfl rfl ?_
    refine o_gtr rfl rfl ?_
    refine g_end (G.imp (hQ_ .normal _) ?_)
    clear hQ_ Q_
    try refine g_then ?_
    first | refine g_seq (g_cond_t rfl (by simp; omega) ?_) | refine g_cond_t rfl (by simp; omega) ?_
    repeat (first | refine g_endt ?_ | refine g_end ?_ | refine g_then ?_ | refine g_in_normal ?_ | refine g_then_ret ?_ | refine g_in_ret ?_ | refine g_then_exit ?_ | refine g_in_exit rfl ?_ | refine g_in_exit_ne (by decide) ?_ | refine g_seq ?_ | refine g_region ?_ | refine g_block ?_ | refine g_ret ?_ | refine g_return_n ?_ | refine g_exit ?_ | refine g_skip ?_)
    refine g_hideR fun Q_ hQ_ => ?_
    refine o_assign ?_
    refine g_end (G.imp (hQ_ .normal _) ?_)
    clear hQ_ Q_
    try refine g_then ?_
    repeat (first | refine g_endt ?_ | refine g_end ?_ | refine g_then ?_ | refine g_in_normal ?_ | refine g_then_ret ?_ | refine g_in_ret ?_ | refine g_then_exit ?_ | refine g_in_exit rfl ?_ | refine g_in_exit_ne (by decide) ?_ | refine g_seq ?_ | refine g_region ?_ | refine g_block ?_ | refine g_ret ?_ | refine g_return_n ?_ | refine g_exit ?_ | refine g_skip ?_)
    have : heavyP ys = true := by unfold heavyP; rw [decide_eq_true (by omega)]; rfl
    exact ret1 (K := []) rfl (resT (v := .bool true) rfl) ⟨by rw [this], rfl⟩
  repeat (first | refine g_endt ?_ | refine g_end ?_ | refine g_then ?_ | refine g_in_normal ?_ | refine g_then_ret ?_ | refine g_in_ret ?_ | refine g_then_exit ?_ | refine g_in_exit rfl ?_ | refine g_in_exit_ne (by decide) ?_ | refine g_seq ?_ | refine g_region ?_ | refine g_block ?_ | refine g_ret ?_ | refine g_return_n ?_ | refine g_exit ?_ | refine g_skip ?_)
  refine g_hideR fun Q_ hQ_ => ?_
  refine o_move ?_
  refine o_len rfl rfl ?_
  refine o_gtr rfl rfl ?_
  refine g_end (G.imp (hQ_ .normal _) ?_)
  clear hQ_ Q_
  try refine g_then ?_
  first | refine g_seq (g_cond_f rfl (by simp; omega) ?_) | refine g_cond_f rfl (by simp; omega) ?_
  repeat (first | refine g_endt ?_ | refine g_end ?_ | refine g_then ?_ | refine g_in_normal ?_ | refine g_then_ret ?_ | refine g_in_ret ?_ | refine g_then_exit ?_ | refine g_in_exit rfl ?_ | refine g_in_exit_ne (by decide) ?_ | refine g_seq ?_ | refine g_region ?_ | refine g_block ?_ | refine g_ret ?_ | refine g_return_n ?_ | refine g_exit ?_ | refine g_skip ?_)
  refine g_hideR fun Q_ hQ_ => ?_
  refine o_assign ?_
  refine g_end (G.imp (hQ_ .normal _) ?_)
  clear hQ_ Q_
  try refine g_then ?_
  repeat (first | refine g_endt ?_ | refine g_end ?_ | refine g_then ?_ | refine g_in_normal ?_ | refine g_then_ret ?_ | refine g_in_ret ?_ | refine g_then_exit ?_ | refine g_in_exit rfl ?_ | refine g_in_exit_ne (by decide) ?_ | refine g_seq ?_ | refine g_region ?_ | refine g_block ?_ | refine g_ret ?_ | refine g_return_n ?_ | refine g_exit ?_ | refine g_skip ?_)
  refine g_loop (σ := {i : Nat // i ≤ n ∧ ∀ q ∈ ys.take i, ¬ heavyQ q = true}) (S := fun i => [(0, .slice A n c), (3, .int .i64 (i.1 : Int))]) (H := fun _ => paK A ys) (μ := fun i => n - i.1) (s0 := ⟨0, Nat.zero_le _, by simp⟩) (Sat.mem ⟨rfl, rfl, trivial⟩) ?_
  rintro ⟨i, hi, hlow⟩ ρ'
  dsimp only at hi hlow ⊢
  repeat (first | refine g_endt ?_ | refine g_end ?_ | refine g_then ?_ | refine g_in_normal ?_ | refine g_then_ret ?_ | refine g_in_ret ?_ | refine g_then_exit ?_ | refine g_in_exit rfl ?_ | refine g_in_exit_ne (by decide) ?_ | refine g_seq ?_ | refine g_region ?_ | refine g_block ?_ | refine g_ret ?_ | refine g_return_n ?_ | refine g_exit ?_ | refine g_skip ?_)
  refine g_hideR fun Q_ hQ_ => ?_
  refine o_move ?_
  refine o_move ?_
  refine o_len rfl rfl ?_
  refine o_lss rfl rfl ?_
  refine g_end (G.imp (hQ_ .normal _) ?_)
  clear hQ_ Q_
  try refine g_then ?_
  by_cases hin : i < n
  · first | refine g_seq (g_cond_t rfl (by first | rfl | (simp; done) | (simp; omega) | (simp; assumption)) ?_) | refine g_cond_t rfl (by first | rfl | (simp; done) | (simp; omega) | (simp; assumption)) ?_
    obtain ⟨q, hq⟩ : ∃ q, ys[i]? = some q := ⟨_, List.getElem?_eq_getElem (by omega)⟩
    have hqm := List.mem_of_getElem? hq
    obtain ⟨ll, lm, rl, rm⟩ := hr q hqm
    refine G.rowG (enc := encP) (sz := 16) (rs := ys.map PaD.l) (r := q.l) (List.mem_map.2 ⟨q, hqm, rfl⟩) ?_
    have hbad : heavyQ q = true → heavyP ys = true := fun h => by
      unfold heavyP
      rw [Bool.or_eq_true, List.any_eq_true]
      exact .inr ⟨q, hqm, h⟩
    have hgood : ¬ heavyQ q = true → ∀ y ∈ ys.take (i + 1), ¬ heavyQ y = true := fun h y hy => by
      rw [List.take_add_one, hq] at hy
      rcases List.mem_append.1 hy with hy | hy
      · exact hlow y hy
      · simp at hy; subst hy; exact h
    cases hL : lightP q.l.zs 20 with
    | false =>
      repeat (first | refine g_endt ?_ | refine g_end ?_ | refine g_then ?_ | refine g_in_normal ?_ | refine g_then_ret ?_ | refine g_in_ret ?_ | refine g_then_exit ?_ | refine g_in_exit rfl ?_ | refine g_in_exit_ne (by decide) ?_ | refine g_seq ?_ | refine g_region ?_ | refine g_block ?_ | refine g_ret ?_ | refine g_return_n ?_ | refine g_exit ?_ | refine g_skip ?_)
      refine g_hideR fun Q_ hQ_ => ?_
      refine o_move ?_
      refine o_move ?_
      refine o_indexR (ys := ys) (i := i) rfl rfl rfl (by omega) hl rfl ?_
      refine o_fieldR rfl (by omega) ?_
      refine o_loadE1 (ys := ys) (v := .slice q.l.a q.l.len q.l.cap) rfl hq rfl ?_
      refine o_callp (light17_spec q.l.a q.l.len q.l.cap q.l.zs 20 ll lm hL) rfl rfl ?_
      rintro _ _ ⟨rfl, rfl⟩
      refine o_not rfl ?_
      refine o_move ?_
      first | (refine o_want rfl rfl rfl rfl rfl ?_; refine o_move ?_) | refine o_unwanted rfl rfl rfl rfl rfl ?_ | refine o_undef rfl rfl rfl ?_
      first | (refine o_want rfl rfl rfl rfl rfl ?_; refine o_move ?_) | refine o_unwanted rfl rfl rfl rfl rfl ?_ | refine o_undef rfl rfl rfl ?_
      first | refine o_unwanted rfl rfl rfl rfl rfl ?_ | refine o_undef rfl rfl rfl ?_
      first | refine o_unwanted rfl rfl rfl rfl rfl ?_ | refine o_undef rfl rfl rfl ?_
      first | refine o_unwanted rfl rfl rfl rfl rfl ?_ | refine o_undef rfl rfl rfl ?_
      first | (refine o_want rfl rfl rfl rfl rfl ?_; refine o_len rfl rfl ?_) | refine o_unwanted rfl rfl rfl rfl rfl ?_ | refine o_undef rfl rfl rfl ?_
      first | (refine o_want rfl rfl rfl rfl rfl ?_; refine o_gtr rfl rfl ?_) | refine o_unwanted rfl rfl rfl rfl rfl ?_ | refine o_undef rfl rfl rfl ?_
      first | refine o_pick_t rfl rfl ?_ | refine o_pick_f rfl rfl ?_
      refine g_end (G.imp (hQ_ .normal _) ?_)
      clear hQ_ Q_
      try refine g_then ?_
      first | refine g_seq (g_cond_t rfl (by first | rfl | (simp; done) | (simp; omega) | (simp; assumption)) ?_) | refine g_cond_t rfl (by first | rfl | (simp; done) | (simp; omega) | (simp; assumption)) ?_
      repeat (first | refine g_endt ?_ | refine g_end ?_ | refine g_then ?_ | refine g_in_normal ?_ | refine g_then_ret ?_ | refine g_in_ret ?_ | refine g_then_exit ?_ | refine g_in_exit rfl ?_ | refine g_in_exit_ne (by decide) ?_ | refine g_seq ?_ | refine g_region ?_ | refine g_block ?_ | refine g_ret ?_ | refine g_return_n ?_ | refine g_exit ?_ | refine g_skip ?_)
      refine g_hideR fun Q_ hQ_ => ?_
      refine o_assign ?_
      refine g_end (G.imp (hQ_ .normal _) ?_)
      clear hQ_ Q_
      try refine g_then ?_
      repeat (first | refine g_endt ?_ | refine g_end ?_ | refine g_then ?_ | refine g_in_normal ?_ | refine g_then_ret ?_ | refine g_in_ret ?_ | refine g_then_exit ?_ | refine g_in_exit rfl ?_ | refine g_in_exit_ne (by decide) ?_ | refine g_seq ?_ | refine g_region ?_ | refine g_block ?_ | refine g_ret ?_ | refine g_return_n ?_ | refine g_exit ?_ | refine g_skip ?_)
      exact ret1 (K := []) rfl (resT (v := .bool true) rfl) ⟨by rw [hbad (by unfold heavyQ; rw [hL]; rfl)], rfl⟩
    | true =>
      by_cases h2 : 20 < q.r.len
      · skip
        repeat (first | refine g_endt ?_ | refine g_end ?_ | refine g_then ?_ | refine g_in_normal ?_ | refine g_then_ret ?_ | refine g_in_ret ?_ | refine g_then_exit ?_ | refine g_in_exit rfl ?_ | refine g_in_exit_ne (by decide) ?_ | refine g_seq ?_ | refine g_region ?_ | refine g_block ?_ | refine g_ret ?_ | refine g_return_n ?_ | refine g_exit ?_ | refine g_skip ?_)
        refine g_hideR fun Q_ hQ_ => ?_
        refine o_move ?_
        refine o_move ?_
        refine o_indexR (ys := ys) (i := i) rfl rfl rfl (by omega) hl rfl ?_
        refine o_fieldR rfl (by omega) ?_
        refine o_loadE1 (ys := ys) (v := .slice q.l.a q.l.len q.l.cap) rfl hq rfl ?_
        refine o_callp (light17_spec q.l.a q.l.len q.l.cap q.l.zs 20 ll lm hL) rfl rfl ?_
        rintro _ _ ⟨rfl, rfl⟩
        refine o_not rfl ?_
        refine o_move ?_
        first | (refine o_want rfl rfl rfl rfl rfl ?_; refine o_move ?_) | refine o_unwanted rfl rfl rfl rfl rfl ?_ | refine o_undef rfl rfl rfl ?_
        first | (refine o_want rfl rfl rfl rfl rfl ?_; refine o_move ?_) | refine o_unwanted rfl rfl rfl rfl rfl ?_ | refine o_undef rfl rfl rfl ?_
        refine o_want rfl rfl rfl rfl rfl (o_indexR (ys := ys) (i := i) rfl rfl rfl (by omega) hl rfl ?_)
        refine o_want rfl rfl rfl rfl rfl (o_fieldR rfl (by omega) ?_)
        refine o_want rfl rfl rfl rfl rfl (o_loadE1 (ys := ys) (v := .slice q.r.a q.r.len q.r.cap) rfl hq rfl ?_)
        first | (refine o_want rfl rfl rfl rfl rfl ?_; refine o_len rfl rfl ?_) | refine o_unwanted rfl rfl rfl rfl rfl ?_ | refine o_undef rfl rfl rfl ?_
        first | (refine o_want rfl rfl rfl rfl rfl ?_; refine o_gtr rfl rfl ?_) | refine o_unwanted rfl rfl rfl rfl rfl ?_ | refine o_undef rfl rfl rfl ?_
        first | refine o_pick_t rfl rfl ?_ | refine o_pick_f rfl rfl ?_
        refine g_end (G.imp (hQ_ .normal _) ?_)
        clear hQ_ Q_
        try refine g_then ?_
        first | refine g_seq (g_cond_t rfl (by simp; omega) ?_) | refine g_cond_t rfl (by simp; omega) ?_
        repeat (first | refine g_endt ?_ | refine g_end ?_ | refine g_then ?_ | refine g_in_normal ?_ | refine g_then_ret ?_ | refine g_in_ret ?_ | refine g_then_exit ?_ | refine g_in_exit rfl ?_ | refine g_in_exit_ne (by decide) ?_ | refine g_seq ?_ | refine g_region ?_ | refine g_block ?_ | refine g_ret ?_ | refine g_return_n ?_ | refine g_exit ?_ | refine g_skip ?_)
        refine g_hideR fun Q_ hQ_ => ?_
        refine o_assign ?_
        refine g_end (G.imp (hQ_ .normal _) ?_)
        clear hQ_ Q_
        try refine g_then ?_
        repeat (first | refine g_endt ?_ | refine g_end ?_ | refine g_then ?_ | refine g_in_normal ?_ | refine g_then_ret ?_ | refine g_in_ret ?_ | refine g_then_exit ?_ | refine g_in_exit rfl ?_ | refine g_in_exit_ne (by decide) ?_ | refine g_seq ?_ | refine g_region ?_ | refine g_block ?_ | refine g_ret ?_ | refine g_return_n ?_ | refine g_exit ?_ | refine g_skip ?_)
        exact ret1 (K := []) rfl (resT (v := .bool true) rfl) ⟨by rw [hbad (by unfold heavyQ; rw [decide_eq_true h2, Bool.or_true])], rfl⟩
      · skip
        repeat (first | refine g_endt ?_ | refine g_end ?_ | refine g_then ?_ | refine g_in_normal ?_ | refine g_then_ret ?_ | refine g_in_ret ?_ | refine g_then_exit ?_ | refine g_in_exit rfl ?_ | refine g_in_exit_ne (by decide) ?_ | refine g_seq ?_ | refine g_region ?_ | refine g_block ?_ | refine g_ret ?_ | refine g_return_n ?_ | refine g_exit ?_ | refine g_skip ?_)
        refine g_hideR fun Q_ hQ_ => ?_
        refine o_move ?_
        refine o_move ?_
        refine o_indexR (ys := ys) (i := i) rfl rfl rfl (by omega) hl rfl ?_
        refine o_fieldR rfl (by omega) ?_
        refine o_loadE1 (ys := ys) (v := .slice q.l.a q.l.len q.l.cap) rfl hq rfl ?_
        refine o_callp (light17_spec q.l.a q.l.len q.l.cap q.l.zs 20 ll lm hL) rfl rfl ?_
        rintro _ _ ⟨rfl, rfl⟩
        refine o_not rfl ?_
        refine o_move ?_
        first | (refine o_want rfl rfl rfl rfl rfl ?_; refine o_move ?_) | refine o_unwanted rfl rfl rfl rfl rfl ?_ | refine o_undef rfl rfl rfl ?_
        first | (refine o_want rfl rfl rfl rfl rfl ?_; refine o_move ?_) | refine o_unwanted rfl rfl rfl rfl rfl ?_ | refine o_undef rfl rfl rfl ?_
        refine o_want rfl rfl rfl rfl rfl (o_indexR (ys := ys) (i := i) rfl rfl rfl (by omega) hl rfl ?_)
        refine o_want rfl rfl rfl rfl rfl (o_fieldR rfl (by omega) ?_)
        refine o_want rfl rfl rfl rfl rfl (o_loadE1 (ys := ys) (v := .slice q.r.a q.r.len q.r.cap) rfl hq rfl ?_)
        first | (refine o_want rfl rfl rfl rfl rfl ?_; refine o_len rfl rfl ?_) | refine o_unwanted rfl rfl rfl rfl rfl ?_ | refine o_undef rfl rfl rfl ?_
        first | (refine o_want rfl rfl rfl rfl rfl ?_; refine o_gtr rfl rfl ?_) | refine o_unwanted rfl rfl rfl rfl rfl ?_ | refine o_undef rfl rfl rfl ?_
        first | refine o_pick_t rfl rfl ?_ | refine o_pick_f rfl rfl ?_
        refine g_end (G.imp (hQ_ .normal _) ?_)
        clear hQ_ Q_
        try refine g_then ?_
        first | refine g_seq (g_cond_f rfl (by simp; omega) ?_) | refine g_cond_f rfl (by simp; omega) ?_
        repeat (first | refine g_endt ?_ | refine g_end ?_ | refine g_then ?_ | refine g_in_normal ?_ | refine g_then_ret ?_ | refine g_in_ret ?_ | refine g_then_exit ?_ | refine g_in_exit rfl ?_ | refine g_in_exit_ne (by decide) ?_ | refine g_seq ?_ | refine g_region ?_ | refine g_block ?_ | refine g_ret ?_ | refine g_return_n ?_ | refine g_exit ?_ | refine g_skip ?_)
        repeat (first | refine g_endt ?_ | refine g_end ?_ | refine g_then ?_ | refine g_in_normal ?_ | refine g_then_ret ?_ | refine g_in_ret ?_ | refine g_then_exit ?_ | refine g_in_exit rfl ?_ | refine g_in_exit_ne (by decide) ?_ | refine g_seq ?_ | refine g_region ?_ | refine g_block ?_ | refine g_ret ?_ | refine g_return_n ?_ | refine g_exit ?_ | refine g_skip ?_)
        refine g_hideR fun Q_ hQ_ => ?_
        refine o_move ?_
        refine o_add (c := ((i + 1 : Nat) : Int)) rfl rfl (by omega) (by omega) (by omega) ?_
        refine o_assign ?_
        refine g_end (G.imp (hQ_ .normal _) ?_)
        clear hQ_ Q_
        try refine g_then ?_
        repeat (first | refine g_endt ?_ | refine g_end ?_ | refine g_then ?_ | refine g_in_normal ?_ | refine g_then_ret ?_ | refine g_in_ret ?_ | refine g_then_exit ?_ | refine g_in_exit rfl ?_ | refine g_in_exit_ne (by decide) ?_ | refine g_seq ?_ | refine g_region ?_ | refine g_block ?_ | refine g_ret ?_ | refine g_return_n ?_ | refine g_exit ?_ | refine g_skip ?_)
        exact g_meets ⟨i + 1, hin, hgood (by unfold heavyQ; rw [hL, decide_eq_false h2]; decide)⟩ (by show n - (i + 1) < n - i; omega) (Sat.mem ⟨rfl, rfl, trivial⟩)
  · first | refine g_seq (g_cond_f rfl (by simp; omega) ?_) | refine g_cond_f rfl (by simp; omega) ?_
    repeat (first | refine g_endt ?_ | refine g_end ?_ | refine g_then ?_ | refine g_in_normal ?_ | refine g_then_ret ?_ | refine g_in_ret ?_ | refine g_then_exit ?_ | refine g_in_exit rfl ?_ | refine g_in_exit_ne (by decide) ?_ | refine g_seq ?_ | refine g_region ?_ | refine g_block ?_ | refine g_ret ?_ | refine g_return_n ?_ | refine g_exit ?_ | refine g_skip ?_)
    refine g_hideR fun Q_ hQ_ => ?_
    refine o_assign ?_
    refine g_end (G.imp (hQ_ .normal _) ?_)
    clear hQ_ Q_
    try refine g_then ?_
    repeat (first | refine g_endt ?_ | refine g_end ?_ | refine g_then ?_ | refine g_in_normal ?_ | refine g_then_ret ?_ | refine g_in_ret ?_ | refine g_then_exit ?_ | refine g_in_exit rfl ?_ | refine g_in_exit_ne (by decide) ?_ | refine g_seq ?_ | refine g_region ?_ | refine g_block ?_ | refine g_ret ?_ | refine g_return_n ?_ | refine g_exit ?_ | refine g_skip ?_)
    rw [List.take_of_length_le (by omega)] at hlow
    have : heavyP ys = false := by
      unfold heavyP
      rw [Bool.or_eq_false_iff, decide_eq_false_iff_not, List.any_eq_false]
      exact ⟨by omega, hlow⟩
    exact ret1 (K := []) rfl (resT (v := .bool false) rfl) ⟨by rw [this], rfl⟩
/-! ### What acts leave -/
theorem WithinP_spec (a : Int) (n : Nat) (hn : 0 < n) (hn2 : n ≤ 1000000000) {k : Nat} (h : (a % (n : Int)).toNat = k) : Ctr Tryz.prog 23 [.int .i64 a, .int .i64 (n : Int)] [] (fun v M => v = .int .i64 (k : Int) ∧ M = []) := by
  rw [← h]; exact Within_spec a n hn hn2
theorem withinP_lt (a : Int) (n : Nat) (hn : 0 < n) : (a % (n : Int)).toNat < n := by
  have h0 : 0 ≤ a % (n : Int) := Int.emod_nonneg _ (by omega)
  have h1 : a % (n : Int) < n := Int.emod_lt_of_pos _ (by omega)
  omega
def doP (q : PaD) : Nat := (q.d % ((8 : Nat) : Int)).toNat
def keptP (id : SymD) (ps : List PrefD) : List PrefD := ps.filter fun p => !p.id.beq id
def idsP (id : SymD) (ps : List PrefD) : List SymD := (keptP id ps).map PrefD.id
theorem kept_one (id : SymD) (ps : List PrefD) : goneR ps (fun p => !(!p.id.beq id)) = keptP id ps := by
  unfold goneR keptP
  refine List.filter_congr fun p _ => ?_
  rw [Bool.not_not]
theorem kept_two (id : SymD) (ps : List PrefD) : goneR ps (keepG (idsP id ps)) = keptP id ps := by
  unfold goneR keptP
  refine List.filter_congr fun p hp => ?_
  unfold keepG
  rw [Bool.not_not, Bool.eq_iff_iff, inS_iff]
  unfold idsP keptP
  rw [List.mem_map]
  constructor
  · rintro ⟨x, hx, he⟩
    have := (List.mem_filter.1 hx).2
    rwa [he] at this
  · exact fun h => ⟨p, List.mem_filter.2 ⟨hp, h⟩, rfl⟩
theorem idsP_take {id : SymD} {ps : List PrefD} {i : Nat} {p : PrefD} (h : ps[i]? = some p) : idsP id (ps.take (i + 1)) = idsP id (ps.take i) ++ if (!p.id.beq id) = true then [p.id] else [] := by
  unfold idsP keptP
  rw [filter_take (fun p : PrefD => !p.id.beq id) h, List.map_append]
  split <;> rfl
theorem idsP_len (id : SymD) (ps : List PrefD) : (idsP id ps).length ≤ ps.length := by
  unfold idsP keptP; rw [List.length_map]; exact List.length_filter_le _ _
def stepP (room : Int) (ps : List PrefD) (q : PaD) : List PrefD :=
  if doP q = 5 then goneR ps (dropG q.r.zs) else if doP q = 6 then goneR ps (cutG q.n) else if doP q = 7 then keptP q.id ps else (addR room ps q.l.zs).2
theorem stepP_len {room : Int} {ps : List PrefD} (q : PaD) (hr : room ≤ 2048) (hp : ps.length ≤ 2048) : (stepP room ps q).length ≤ 2048 := by
  unfold stepP
  split
  · exact Nat.le_trans (List.length_filter_le _ _) hp
  split
  · exact Nat.le_trans (List.length_filter_le _ _) hp
  split
  · exact Nat.le_trans (List.length_filter_le _ _) hp
  unfold addR
  split
  · split
    · exact hp
    · show (outP ps q.l.zs).length ≤ 2048
      omega
  · exact hp
def playP (room : Int) (ps : List PrefD) (ys : List PaD) : List PrefD := ys.foldl (stepP room) ps
theorem playP_take {room : Int} {ps : List PrefD} {ys : List PaD} {i : Nat} {q : PaD} (h : ys[i]? = some q) : playP room ps (ys.take (i + 1)) = stepP room (playP room ps (ys.take i)) q := by
  rw [List.take_add_one, h]; unfold playP; rw [List.foldl_append]; rfl
theorem playP_len {room : Int} (hr : room ≤ 2048) : ∀ (ys : List PaD) {ps : List PrefD}, ps.length ≤ 2048 → (playP room ps ys).length ≤ 2048
  | [], _, h => h
  | q :: ys, _, h => playP_len hr ys (stepP_len q hr h)
end Go.Proofs.YtonaccfoelgpnaaGreat
/- Acts on preferences, played. -/
namespace Go.Proofs.YtonaccfoelgpnaaGreat
open Go Go.Sl
attribute [local irreducible] Exit.then Exit.inBlock Code.wpIn roundPost bodyPostM runL Ret Meets MeetsD Begin

abbrev cAct (c : Nat) (q : PaD) : SProp := cellsB c q.val.cells 68
abbrev oS (S : Option Addr) (c : Nat) (l : List SymD) : SProp := osl 39 encS 3 S c l
def zeroP : PrefD := ⟨⟨0, ByteArray.empty, 0⟩, ⟨0, ByteArray.empty, 0⟩, ⟨0, ByteArray.empty, 0⟩, ⟨0, ByteArray.empty, 0⟩, 0, false, 0, 0⟩
theorem play1_spec (b : Nat) (q : PaD) (x : SymD) : Ctr Tryz.prog 27 [x.val, .pointer (some ⟨b, 0, none⟩)] [cAct b q] (fun v M => v = .bool (!x.beq q.id) ∧ M = [cAct b q]) := by
  refine spec_of Tryz.func27 rfl Tryz.ntmps27 rfl fun w0 F => ?_
  -- hide
  -- ponder/ponderlaw17.play$1
  repeat (first | refine g_endt ?_ | refine g_end ?_ | refine g_then ?_ | refine g_in_normal ?_ | refine g_then_ret ?_ | refine g_in_ret ?_ | refine g_then_exit ?_ | refine g_in_exit rfl ?_ | refine g_in_exit_ne (by decide) ?_ | refine g_seq ?_ | refine g_region ?_ | refine g_block ?_ | refine g_ret ?_ | refine g_return_n ?_ | refine g_exit ?_ | refine g_skip ?_)
  refine g_hideR fun Q_ hQ_ => ?_
  refine o_boxc x.val.cells rfl rfl fun c2 => ?_
  refine o_assign ?_
  refine g_end (G.imp (hQ_ .normal _) ?_)
  clear hQ_ Q_
  try refine g_then ?_
  repeat (first | refine g_endt ?_ | refine g_end ?_ | refine g_then ?_ | refine g_in_normal ?_ | refine g_then_ret ?_ | refine g_in_ret ?_ | refine g_then_exit ?_ | refine g_in_exit rfl ?_ | refine g_in_exit_ne (by decide) ?_ | refine g_seq ?_ | refine g_region ?_ | refine g_block ?_ | refine g_ret ?_ | refine g_return_n ?_ | refine g_exit ?_ | refine g_skip ?_)
  refine g_hideR fun Q_ hQ_ => ?_
  refine o_loadN (v := x.val) rfl rfl rfl ?_
  first | refine o_field rfl ?_ | refine o_fieldR rfl (by omega) ?_
  refine o_loadN (v := q.id.val) rfl rfl rfl ?_
  refine o_neqty rfl rfl (eqT rfl) ?_
  refine o_assign ?_
  refine g_end (G.imp (hQ_ .normal _) ?_)
  clear hQ_ Q_
  try refine g_then ?_
  repeat (first | refine g_endt ?_ | refine g_end ?_ | refine g_then ?_ | refine g_in_normal ?_ | refine g_then_ret ?_ | refine g_in_ret ?_ | refine g_then_exit ?_ | refine g_in_exit rfl ?_ | refine g_in_exit_ne (by decide) ?_ | refine g_seq ?_ | refine g_region ?_ | refine g_block ?_ | refine g_ret ?_ | refine g_return_n ?_ | refine g_exit ?_ | refine g_skip ?_)
  exact ret1 (K := [cAct b q]) rfl (resT rfl) ⟨rfl, rfl⟩
set_option maxHeartbeats 4000000 in
theorem play17_spec (m r : Nat) (room : Int) (hroom : room ≤ 2048) (ps : List PrefD) (hps : ps.length ≤ 2048) (A : Option Addr) (n c : Nat) (ys : List PaD) (hl : ys.length = n) (hm : n ≤ 30) (hr : ∀ q ∈ ys, q.Ok) (hq20 : ∀ q ∈ ys, lightP q.l.zs 20 = true ∧ q.r.len ≤ 20) {fs : List PrefD} (hfs : playP room ps ys = fs) :
    Ctr Tryz.prog 8 [.pointer (some ⟨m, 0, none⟩), .pointer (some ⟨r, 0, none⟩), .slice A n c] (MemP m room ps :: RefM r room ps :: paK A ys) (fun v M => v = .bool true ∧ M = [MemP m room fs, RefM r room fs]) := by
  refine spec_of Tryz.func8 rfl Tryz.ntmps8 rfl fun w0 F => ?_
  -- hide
  -- ponder/ponderlaw17.play
  subst hfs
  repeat (first | refine g_endt ?_ | refine g_end ?_ | refine g_then ?_ | refine g_in_normal ?_ | refine g_then_ret ?_ | refine g_in_ret ?_ | refine g_then_exit ?_ | refine g_in_exit rfl ?_ | refine g_in_exit_ne (by decide) ?_ | refine g_seq ?_ | refine g_region ?_ | refine g_block ?_ | refine g_ret ?_ | refine g_return_n ?_ | refine g_exit ?_ | refine g_skip ?_)
  refine g_hideR fun Q_ hQ_ => ?_
  refine o_assign ?_
  refine g_end (G.imp (hQ_ .normal _) ?_)
  clear hQ_ Q_
  try refine g_then ?_
  repeat (first | refine g_endt ?_ | refine g_end ?_ | refine g_then ?_ | refine g_in_normal ?_ | refine g_then_ret ?_ | refine g_in_ret ?_ | refine g_then_exit ?_ | refine g_in_exit rfl ?_ | refine g_in_exit_ne (by decide) ?_ | refine g_seq ?_ | refine g_region ?_ | refine g_block ?_ | refine g_ret ?_ | refine g_return_n ?_ | refine g_exit ?_ | refine g_skip ?_)
  refine g_hideR fun Q_ hQ_ => ?_
  refine o_assign ?_
  refine g_end (G.imp (hQ_ .normal _) ?_)
  clear hQ_ Q_
  try refine g_then ?_
  repeat (first | refine g_endt ?_ | refine g_end ?_ | refine g_then ?_ | refine g_in_normal ?_ | refine g_then_ret ?_ | refine g_in_ret ?_ | refine g_then_exit ?_ | refine g_in_exit rfl ?_ | refine g_in_exit_ne (by decide) ?_ | refine g_seq ?_ | refine g_region ?_ | refine g_block ?_ | refine g_ret ?_ | refine g_return_n ?_ | refine g_exit ?_ | refine g_skip ?_)
  refine g_loop (σ := {i : Nat // i ≤ n}) (S := fun i => [(0, .pointer (some ⟨m, 0, none⟩)), (1, .pointer (some ⟨r, 0, none⟩)), (2, .slice A n c), (7, .int .i64 (i.1 : Int))]) (H := fun i => MemP m room (playP room ps (ys.take i.1)) :: RefM r room (playP room ps (ys.take i.1)) :: paK A ys) (μ := fun i => n - i.1) (s0 := ⟨0, Nat.zero_le _⟩) (Sat.mem ⟨rfl, rfl, rfl, rfl, trivial⟩) (t := (inferInstance : Take _ (MemP m room ps :: RefM r room ps :: paK A ys) _)) ?_
  rintro ⟨i, hi⟩ ρ'
  dsimp only at hi ⊢
  repeat (first | refine g_endt ?_ | refine g_end ?_ | refine g_then ?_ | refine g_in_normal ?_ | refine g_then_ret ?_ | refine g_in_ret ?_ | refine g_then_exit ?_ | refine g_in_exit rfl ?_ | refine g_in_exit_ne (by decide) ?_ | refine g_seq ?_ | refine g_region ?_ | refine g_block ?_ | refine g_ret ?_ | refine g_return_n ?_ | refine g_exit ?_ | refine g_skip ?_)
  refine g_hideR fun Q_ hQ_ => ?_
  refine o_move ?_
  refine o_move ?_
  refine o_len rfl rfl ?_
  refine o_lss rfl rfl ?_
  refine g_end (G.imp (hQ_ .normal _) ?_)
  clear hQ_ Q_
  try refine g_then ?_
  by_cases hin : i < n
  · first | refine g_seq (g_cond_t rfl (by first | rfl | (simp; done) | (simp; omega) | (simp; assumption)) ?_) | refine g_cond_t rfl (by first | rfl | (simp; done) | (simp; omega) | (simp; assumption)) ?_
    obtain ⟨q, hq⟩ : ∃ q, ys[i]? = some q := ⟨_, List.getElem?_eq_getElem (by omega)⟩
    have hqm := List.mem_of_getElem? hq
    obtain ⟨ll, lm, rl, rm⟩ := hr q hqm
    obtain ⟨hlt, hn20⟩ := hq20 q hqm
    obtain ⟨hl20, hsm⟩ := lightP_yes hlt
    have hT' := playP_take (room := room) (ps := ps) hq
    have hpl := playP_len hroom (ys.take i) hps
    generalize playP room ps (ys.take i) = os at hT' hpl ⊢
    have hsl := stepP_len q hroom hpl
    have hw8 := withinP_lt q.d 8 (by decide)
    obtain ⟨w, hw⟩ : ∃ w, (q.d % ((8 : Nat) : Int)).toNat = w := ⟨_, rfl⟩
    rw [hw] at hw8
    have hdo : doP q = w := hw
    repeat (first | refine g_endt ?_ | refine g_end ?_ | refine g_then ?_ | refine g_in_normal ?_ | refine g_then_ret ?_ | refine g_in_ret ?_ | refine g_then_exit ?_ | refine g_in_exit rfl ?_ | refine g_in_exit_ne (by decide) ?_ | refine g_seq ?_ | refine g_region ?_ | refine g_block ?_ | refine g_ret ?_ | refine g_return_n ?_ | refine g_exit ?_ | refine g_skip ?_)
    repeat (first | refine g_endt ?_ | refine g_end ?_ | refine g_then ?_ | refine g_in_normal ?_ | refine g_then_ret ?_ | refine g_in_ret ?_ | refine g_then_exit ?_ | refine g_in_exit rfl ?_ | refine g_in_exit_ne (by decide) ?_ | refine g_seq ?_ | refine g_region ?_ | refine g_block ?_ | refine g_ret ?_ | refine g_return_n ?_ | refine g_exit ?_ | refine g_skip ?_)
    refine g_hideR fun Q_ hQ_ => ?_
    refine o_move ?_
    refine o_move ?_
    refine o_indexR (ys := ys) (i := i) rfl rfl rfl (by omega) hl rfl ?_
    refine o_loadE (ys := ys) rfl rfl hq ?_
    refine o_alloc fun c8 => ?_
    refine o_store (v := q.val) rfl rfl rfl rfl rfl ?_
    refine g_end (G.imp (hQ_ .normal _) ?_)
    clear hQ_ Q_
    try refine g_then ?_
    refine G.norm c8 q.val.cells rfl ?_
    repeat (first | refine g_endt ?_ | refine g_end ?_ | refine g_then ?_ | refine g_in_normal ?_ | refine g_then_ret ?_ | refine g_in_ret ?_ | refine g_then_exit ?_ | refine g_in_exit rfl ?_ | refine g_in_exit_ne (by decide) ?_ | refine g_seq ?_ | refine g_region ?_ | refine g_block ?_ | refine g_ret ?_ | refine g_return_n ?_ | refine g_exit ?_ | refine g_skip ?_)
    refine g_hideR fun Q_ hQ_ => ?_
    refine o_assign ?_
    refine g_end (G.imp (hQ_ .normal _) ?_)
    clear hQ_ Q_
    try refine g_then ?_
    refine g_cut (σ := Unit) (ds' := []) (S := fun _ => [(0, .pointer (some ⟨m, 0, none⟩)), (1, .pointer (some ⟨r, 0, none⟩)), (2, .slice A n c), (7, .int .i64 (i : Int)), (9, .bool true)]) (H := fun _ => MemP m room (stepP room os q) :: RefM r room (stepP room os q) :: paK A ys) (ok := fun _ => True) ?_ ?_
    · skip
      repeat (first | refine g_endt ?_ | refine g_end ?_ | refine g_then ?_ | refine g_in_normal ?_ | refine g_then_ret ?_ | refine g_in_ret ?_ | refine g_then_exit ?_ | refine g_in_exit rfl ?_ | refine g_in_exit_ne (by decide) ?_ | refine g_seq ?_ | refine g_region ?_ | refine g_block ?_ | refine g_ret ?_ | refine g_return_n ?_ | refine g_exit ?_ | refine g_skip ?_)
      refine g_hideR fun Q_ hQ_ => ?_
      first | refine o_field rfl ?_ | refine o_fieldR rfl (by omega) ?_
      refine o_load1 (v := .int .i64 q.d) rfl rfl ?_
      refine o_call (WithinP_spec q.d 8 (by decide) (by decide) hw) rfl rfl ?_
      rintro _ _ ⟨rfl, rfl⟩
      refine g_end (G.imp (hQ_ .normal _) ?_)
      clear hQ_ Q_
      try refine g_then ?_
      repeat (first | refine g_endt ?_ | refine g_end ?_ | refine g_then ?_ | refine g_in_normal ?_ | refine g_then_ret ?_ | refine g_in_ret ?_ | refine g_then_exit ?_ | refine g_in_exit rfl ?_ | refine g_in_exit_ne (by decide) ?_ | refine g_seq ?_ | refine g_region ?_ | refine g_block ?_ | refine g_ret ?_ | refine g_return_n ?_ | refine g_exit ?_ | refine g_skip ?_)
      by_cases h5 : w = 5
      · have hst : stepP room os q = goneR os (dropG q.r.zs) := by unfold stepP; rw [if_pos (hdo.trans h5)]
        rw [hst]
        refine G.rowG (enc := encI) (sz := 1) (rs := ys.map PaD.r) (r := q.r) (List.mem_map.2 ⟨q, hqm, rfl⟩) ?_
        refine G.dup (psl encI 1 q.r.a q.r.zs) ?_
        repeat (first | refine g_endt ?_ | refine g_end ?_ | refine g_then ?_ | refine g_in_normal ?_ | refine g_then_ret ?_ | refine g_in_ret ?_ | refine g_then_exit ?_ | refine g_in_exit rfl ?_ | refine g_in_exit_ne (by decide) ?_ | refine g_seq ?_ | refine g_region ?_ | refine g_block ?_ | refine g_ret ?_ | refine g_return_n ?_ | refine g_exit ?_ | refine g_skip ?_)
        refine g_hideR fun Q_ hQ_ => ?_
        refine o_eqlT (t := true) rfl rfl (by rw [h5]; rfl) ?_
        refine o_assign ?_
        refine g_end (G.imp (hQ_ .normal _) ?_)
        clear hQ_ Q_
        try refine g_then ?_
        first | refine g_seq (g_cond_t rfl (by first | rfl | (simp; done) | (simp; omega) | (simp; assumption)) ?_) | refine g_cond_t rfl (by first | rfl | (simp; done) | (simp; omega) | (simp; assumption)) ?_
        repeat (first | refine g_endt ?_ | refine g_end ?_ | refine g_then ?_ | refine g_in_normal ?_ | refine g_then_ret ?_ | refine g_in_ret ?_ | refine g_then_exit ?_ | refine g_in_exit rfl ?_ | refine g_in_exit_ne (by decide) ?_ | refine g_seq ?_ | refine g_region ?_ | refine g_block ?_ | refine g_ret ?_ | refine g_return_n ?_ | refine g_exit ?_ | refine g_skip ?_)
        refine g_hide fun Q_ hQ_ => ?_
        refine g_draw [3,7] [0,1,2,4,5,6,3,7,8,9] [cAct c8 q] mixed rfl ?_
        refine ob_q rfl rfl ⟨_, fun X Q h => o_move (g_end (h _ _ ⟨rfl, rfl⟩)), ?_⟩
        first | refine ob_q rfl rfl ⟨_, fun X Q h => o_field rfl (g_end (h _ _ ⟨rfl, rfl⟩)), ?_⟩ | refine ob_q rfl rfl ⟨_, fun X Q h => o_fieldR rfl (by omega) (g_end (h _ _ ⟨rfl, rfl⟩)), ?_⟩
        refine ob_q rfl rfl ⟨_, fun X Q h => o_load1 (v := .slice q.r.a q.r.len q.r.cap) rfl rfl (g_end (h _ _ ⟨rfl, rfl⟩)), ?_⟩
        refine ob_q rfl rfl ⟨_, fun X Q h => o_move (g_end (h _ _ ⟨rfl, rfl⟩)), ?_⟩
        first | refine ob_q rfl rfl ⟨_, fun X Q h => o_field rfl (g_end (h _ _ ⟨rfl, rfl⟩)), ?_⟩ | refine ob_q rfl rfl ⟨_, fun X Q h => o_fieldR rfl (by omega) (g_end (h _ _ ⟨rfl, rfl⟩)), ?_⟩
        refine ob_q rfl rfl ⟨_, fun X Q h => o_load1 (v := .slice q.r.a q.r.len q.r.cap) rfl rfl (g_end (h _ _ ⟨rfl, rfl⟩)), ?_⟩
        refine ob_l rfl rfl fun Qz hz => o_call (Drop17K_spec m room os (by omega) q.r.a q.r.len q.r.cap q.r.zs rl (by omega) rfl rfl) rfl rfl ?_
        rintro _ _ ⟨rfl, rfl⟩
        refine g_end (hz _ _ ⟨_, ob_fin, ?_⟩)
        clear hz Qz
        refine ob_l rfl rfl fun Qz hz => o_call (DropR15_spec r room os (by omega) q.r.a q.r.len q.r.cap q.r.zs rl (by omega) rfl rfl) rfl rfl ?_
        rintro _ _ ⟨rfl, rfl⟩
        refine g_end (hz _ _ ⟨_, ob_fin, ?_⟩)
        clear hz Qz
        refine ob_q rfl rfl ⟨_, fun X Q h => o_eqlT (t := true) rfl rfl (by simp) (g_end (h _ _ ⟨rfl, rfl⟩)), ?_⟩
        refine ob_q rfl rfl ⟨_, fun X Q h => o_assign (g_end (h _ _ ⟨rfl, rfl⟩)), ?_⟩
        refine ob_nil ?_
        refine G.imp (hQ_ .normal _) ?_
        clear hQ_ Q_
        try refine g_then ?_
        repeat (first | refine g_endt ?_ | refine g_end ?_ | refine g_then ?_ | refine g_in_normal ?_ | refine g_then_ret ?_ | refine g_in_ret ?_ | refine g_then_exit ?_ | refine g_in_exit rfl ?_ | refine g_in_exit_ne (by decide) ?_ | refine g_seq ?_ | refine g_region ?_ | refine g_block ?_ | refine g_ret ?_ | refine g_return_n ?_ | refine g_exit ?_ | refine g_skip ?_)
        exact g_meets () trivial (Sat.mem ⟨rfl, rfl, rfl, rfl, rfl, trivial⟩)
      by_cases h6 : w = 6
      · have hst : stepP room os q = goneR os (cutG q.n) := by unfold stepP; rw [if_neg (by rw [hdo]; exact h5), if_pos (hdo.trans h6)]
        rw [hst]
        repeat (first | refine g_endt ?_ | refine g_end ?_ | refine g_then ?_ | refine g_in_normal ?_ | refine g_then_ret ?_ | refine g_in_ret ?_ | refine g_then_exit ?_ | refine g_in_exit rfl ?_ | refine g_in_exit_ne (by decide) ?_ | refine g_seq ?_ | refine g_region ?_ | refine g_block ?_ | refine g_ret ?_ | refine g_return_n ?_ | refine g_exit ?_ | refine g_skip ?_)
        refine g_hideR fun Q_ hQ_ => ?_
        refine o_eqlT (t := false) rfl rfl (by rw [h6]; rfl) ?_
        refine o_assign ?_
        refine g_end (G.imp (hQ_ .normal _) ?_)
        clear hQ_ Q_
        try refine g_then ?_
        first | refine g_seq (g_cond_f rfl (by first | rfl | (simp; done) | (simp; omega) | (simp; assumption)) ?_) | refine g_cond_f rfl (by first | rfl | (simp; done) | (simp; omega) | (simp; assumption)) ?_
        repeat (first | refine g_endt ?_ | refine g_end ?_ | refine g_then ?_ | refine g_in_normal ?_ | refine g_then_ret ?_ | refine g_in_ret ?_ | refine g_then_exit ?_ | refine g_in_exit rfl ?_ | refine g_in_exit_ne (by decide) ?_ | refine g_seq ?_ | refine g_region ?_ | refine g_block ?_ | refine g_ret ?_ | refine g_return_n ?_ | refine g_exit ?_ | refine g_skip ?_)
        refine g_hideR fun Q_ hQ_ => ?_
        refine o_eqlT (t := true) rfl rfl (by rw [h6]; rfl) ?_
        refine o_assign ?_
        refine g_end (G.imp (hQ_ .normal _) ?_)
        clear hQ_ Q_
        try refine g_then ?_
        first | refine g_seq (g_cond_t rfl (by first | rfl | (simp; done) | (simp; omega) | (simp; assumption)) ?_) | refine g_cond_t rfl (by first | rfl | (simp; done) | (simp; omega) | (simp; assumption)) ?_
        repeat (first | refine g_endt ?_ | refine g_end ?_ | refine g_then ?_ | refine g_in_normal ?_ | refine g_then_ret ?_ | refine g_in_ret ?_ | refine g_then_exit ?_ | refine g_in_exit rfl ?_ | refine g_in_exit_ne (by decide) ?_ | refine g_seq ?_ | refine g_region ?_ | refine g_block ?_ | refine g_ret ?_ | refine g_return_n ?_ | refine g_exit ?_ | refine g_skip ?_)
        refine g_hide fun Q_ hQ_ => ?_
        refine g_draw [3,7] [0,1,2,4,5,6,3,7,8,9] [cAct c8 q] mixed rfl ?_
        refine ob_q rfl rfl ⟨_, fun X Q h => o_move (g_end (h _ _ ⟨rfl, rfl⟩)), ?_⟩
        first | refine ob_q rfl rfl ⟨_, fun X Q h => o_field rfl (g_end (h _ _ ⟨rfl, rfl⟩)), ?_⟩ | refine ob_q rfl rfl ⟨_, fun X Q h => o_fieldR rfl (by omega) (g_end (h _ _ ⟨rfl, rfl⟩)), ?_⟩
        refine ob_q rfl rfl ⟨_, fun X Q h => o_load1 (v := .int .i64 q.n) rfl rfl (g_end (h _ _ ⟨rfl, rfl⟩)), ?_⟩
        refine ob_q rfl rfl ⟨_, fun X Q h => o_move (g_end (h _ _ ⟨rfl, rfl⟩)), ?_⟩
        first | refine ob_q rfl rfl ⟨_, fun X Q h => o_field rfl (g_end (h _ _ ⟨rfl, rfl⟩)), ?_⟩ | refine ob_q rfl rfl ⟨_, fun X Q h => o_fieldR rfl (by omega) (g_end (h _ _ ⟨rfl, rfl⟩)), ?_⟩
        refine ob_q rfl rfl ⟨_, fun X Q h => o_load1 (v := .int .i64 q.n) rfl rfl (g_end (h _ _ ⟨rfl, rfl⟩)), ?_⟩
        refine ob_l rfl rfl fun Qz hz => o_call (Cut17_spec m room os (by omega) q.n rfl rfl) rfl rfl ?_
        rintro _ _ ⟨rfl, rfl⟩
        refine g_end (hz _ _ ⟨_, ob_fin, ?_⟩)
        clear hz Qz
        refine ob_l rfl rfl fun Qz hz => o_call (CutR15_spec r room os (by omega) q.n rfl rfl) rfl rfl ?_
        rintro _ _ ⟨rfl, rfl⟩
        refine g_end (hz _ _ ⟨_, ob_fin, ?_⟩)
        clear hz Qz
        refine ob_q rfl rfl ⟨_, fun X Q h => o_eqlT (t := true) rfl rfl (by simp) (g_end (h _ _ ⟨rfl, rfl⟩)), ?_⟩
        refine ob_q rfl rfl ⟨_, fun X Q h => o_assign (g_end (h _ _ ⟨rfl, rfl⟩)), ?_⟩
        refine ob_nil ?_
        refine G.imp (hQ_ .normal _) ?_
        clear hQ_ Q_
        try refine g_then ?_
        repeat (first | refine g_endt ?_ | refine g_end ?_ | refine g_then ?_ | refine g_in_normal ?_ | refine g_then_ret ?_ | refine g_in_ret ?_ | refine g_then_exit ?_ | refine g_in_exit rfl ?_ | refine g_in_exit_ne (by decide) ?_ | refine g_seq ?_ | refine g_region ?_ | refine g_block ?_ | refine g_ret ?_ | refine g_return_n ?_ | refine g_exit ?_ | refine g_skip ?_)
        exact g_meets () trivial (Sat.mem ⟨rfl, rfl, rfl, rfl, rfl, trivial⟩)
      by_cases h7 : w = 7
      · have hst : stepP room os q = keptP q.id os := by unfold stepP; rw [if_neg (by rw [hdo]; exact h5), if_neg (by rw [hdo]; exact h6), if_pos (hdo.trans h7)]
        rw [hst]
        repeat (first | refine g_endt ?_ | refine g_end ?_ | refine g_then ?_ | refine g_in_normal ?_ | refine g_then_ret ?_ | refine g_in_ret ?_ | refine g_then_exit ?_ | refine g_in_exit rfl ?_ | refine g_in_exit_ne (by decide) ?_ | refine g_seq ?_ | refine g_region ?_ | refine g_block ?_ | refine g_ret ?_ | refine g_return_n ?_ | refine g_exit ?_ | refine g_skip ?_)
        refine g_hideR fun Q_ hQ_ => ?_
        refine o_eqlT (t := false) rfl rfl (by rw [h7]; rfl) ?_
        refine o_assign ?_
        refine g_end (G.imp (hQ_ .normal _) ?_)
        clear hQ_ Q_
        try refine g_then ?_
        first | refine g_seq (g_cond_f rfl (by first | rfl | (simp; done) | (simp; omega) | (simp; assumption)) ?_) | refine g_cond_f rfl (by first | rfl | (simp; done) | (simp; omega) | (simp; assumption)) ?_
        repeat (first | refine g_endt ?_ | refine g_end ?_ | refine g_then ?_ | refine g_in_normal ?_ | refine g_then_ret ?_ | refine g_in_ret ?_ | refine g_then_exit ?_ | refine g_in_exit rfl ?_ | refine g_in_exit_ne (by decide) ?_ | refine g_seq ?_ | refine g_region ?_ | refine g_block ?_ | refine g_ret ?_ | refine g_return_n ?_ | refine g_exit ?_ | refine g_skip ?_)
        refine g_hideR fun Q_ hQ_ => ?_
        refine o_eqlT (t := false) rfl rfl (by rw [h7]; rfl) ?_
        refine o_assign ?_
        refine g_end (G.imp (hQ_ .normal _) ?_)
        clear hQ_ Q_
        try refine g_then ?_
        first | refine g_seq (g_cond_f rfl (by first | rfl | (simp; done) | (simp; omega) | (simp; assumption)) ?_) | refine g_cond_f rfl (by first | rfl | (simp; done) | (simp; omega) | (simp; assumption)) ?_
        repeat (first | refine g_endt ?_ | refine g_end ?_ | refine g_then ?_ | refine g_in_normal ?_ | refine g_then_ret ?_ | refine g_in_ret ?_ | refine g_then_exit ?_ | refine g_in_exit rfl ?_ | refine g_in_exit_ne (by decide) ?_ | refine g_seq ?_ | refine g_region ?_ | refine g_block ?_ | refine g_ret ?_ | refine g_return_n ?_ | refine g_exit ?_ | refine g_skip ?_)
        refine g_hideR fun Q_ hQ_ => ?_
        refine o_eqlT (t := true) rfl rfl (by rw [h7]; rfl) ?_
        refine o_assign ?_
        refine g_end (G.imp (hQ_ .normal _) ?_)
        clear hQ_ Q_
        try refine g_then ?_
        first | refine g_seq (g_cond_t rfl (by first | rfl | (simp; done) | (simp; omega) | (simp; assumption)) ?_) | refine g_cond_t rfl (by first | rfl | (simp; done) | (simp; omega) | (simp; assumption)) ?_
        refine openRM r room os fun a c0 => ?_
        repeat (first | refine g_endt ?_ | refine g_end ?_ | refine g_then ?_ | refine g_in_normal ?_ | refine g_then_ret ?_ | refine g_in_ret ?_ | refine g_then_exit ?_ | refine g_in_exit rfl ?_ | refine g_in_exit_ne (by decide) ?_ | refine g_seq ?_ | refine g_region ?_ | refine g_block ?_ | refine g_ret ?_ | refine g_return_n ?_ | refine g_exit ?_ | refine g_skip ?_)
        refine g_hideR fun Q_ hQ_ => ?_
        refine o_func ?_
        refine o_assign ?_
        refine g_end (G.imp (hQ_ .normal _) ?_)
        clear hQ_ Q_
        try refine g_then ?_
        repeat (first | refine g_endt ?_ | refine g_end ?_ | refine g_then ?_ | refine g_in_normal ?_ | refine g_then_ret ?_ | refine g_in_ret ?_ | refine g_then_exit ?_ | refine g_in_exit rfl ?_ | refine g_in_exit_ne (by decide) ?_ | refine g_seq ?_ | refine g_region ?_ | refine g_block ?_ | refine g_ret ?_ | refine g_return_n ?_ | refine g_exit ?_ | refine g_skip ?_)
        refine g_hideR fun Q_ hQ_ => ?_
        refine o_assign ?_
        refine g_end (G.imp (hQ_ .normal _) ?_)
        clear hQ_ Q_
        try refine g_then ?_
        refine G.nil_slice (α := SymD) 39 encS 3 ?_
        repeat (first | refine g_endt ?_ | refine g_end ?_ | refine g_then ?_ | refine g_in_normal ?_ | refine g_then_ret ?_ | refine g_in_ret ?_ | refine g_then_exit ?_ | refine g_in_exit rfl ?_ | refine g_in_exit_ne (by decide) ?_ | refine g_seq ?_ | refine g_region ?_ | refine g_block ?_ | refine g_ret ?_ | refine g_return_n ?_ | refine g_exit ?_ | refine g_skip ?_)
        refine g_hideR fun Q_ hQ_ => ?_
        refine o_move ?_
        refine o_nil rfl ?_
        first | refine o_field rfl ?_ | refine o_fieldR rfl (by omega) ?_
        refine o_load1 (v := .slice a os.length c0) rfl rfl ?_
        refine o_len rfl rfl ?_
        refine o_move ?_
        refine g_end (G.imp (hQ_ .normal _) ?_)
        clear hQ_ Q_
        try refine g_then ?_
        repeat (first | refine g_endt ?_ | refine g_end ?_ | refine g_then ?_ | refine g_in_normal ?_ | refine g_then_ret ?_ | refine g_in_ret ?_ | refine g_then_exit ?_ | refine g_in_exit rfl ?_ | refine g_in_exit_ne (by decide) ?_ | refine g_seq ?_ | refine g_region ?_ | refine g_block ?_ | refine g_ret ?_ | refine g_return_n ?_ | refine g_exit ?_ | refine g_skip ?_)
        refine g_loop (σ := {t : Nat × Option Addr × Nat // t.1 ≤ os.length}) (S := fun t => [(0, .pointer (some ⟨m, 0, none⟩)), (1, .pointer (some ⟨r, 0, none⟩)), (2, .slice A n c), (7, .int .i64 (i : Int)), (8, .pointer (some ⟨c8, 0, none⟩)), (9, .bool true), (10, .func (.func 27) #[] #[.pointer (some ⟨c8, 0, none⟩)]), (11, .slice t.1.2.1 (idsP q.id (os.take t.1.1)).length t.1.2.2), (79, .int .i64 (os.length : Int)), (80, .int .i64 (t.1.1 : Int))])
          (H := fun t => rC r room a os.length c0 :: psl encP 16 a os :: cAct c8 q :: MemP m room os :: oS t.1.2.1 t.1.2.2 (idsP q.id (os.take t.1.1)) :: paK A ys) (μ := fun t => os.length - t.1.1) (s0 := ⟨(0, none, 0), Nat.zero_le _⟩) (Sat.mem ⟨rfl, rfl, rfl, rfl, rfl, rfl, rfl, rfl, rfl, rfl, trivial⟩) (t := (inferInstance : Take _ (rC r room a os.length c0 :: psl encP 16 a os :: cAct c8 q :: MemP m room os :: oS none 0 [] :: paK A ys) _)) ?_
        rintro ⟨⟨k, S, s⟩, hk⟩ ρ2
        dsimp only at hk ⊢
        have hil := idsP_len q.id (os.take k)
        have htl : (os.take k).length ≤ k := by simp; omega
        repeat (first | refine g_endt ?_ | refine g_end ?_ | refine g_then ?_ | refine g_in_normal ?_ | refine g_then_ret ?_ | refine g_in_ret ?_ | refine g_then_exit ?_ | refine g_in_exit rfl ?_ | refine g_in_exit_ne (by decide) ?_ | refine g_seq ?_ | refine g_region ?_ | refine g_block ?_ | refine g_ret ?_ | refine g_return_n ?_ | refine g_exit ?_ | refine g_skip ?_)
        refine g_hideR fun Q_ hQ_ => ?_
        refine o_lss rfl rfl ?_
        refine g_end (G.imp (hQ_ .normal _) ?_)
        clear hQ_ Q_
        try refine g_then ?_
        by_cases hko : k < os.length
        · first | refine g_seq (g_cond_t rfl (by first | rfl | (simp; done) | (simp; omega) | (simp; assumption)) ?_) | refine g_cond_t rfl (by first | rfl | (simp; done) | (simp; omega) | (simp; assumption)) ?_
          obtain ⟨p, hp⟩ : ∃ p, os[k]? = some p := ⟨_, List.getElem?_eq_getElem hko⟩
          have hft := idsP_take (id := q.id) hp
          generalize idsP q.id (os.take k) = is at hil hft ⊢
          obtain ⟨t, ht⟩ : ∃ t, p.id.beq q.id = t := ⟨_, rfl⟩
          rw [ht] at hft
          repeat (first | refine g_endt ?_ | refine g_end ?_ | refine g_then ?_ | refine g_in_normal ?_ | refine g_then_ret ?_ | refine g_in_ret ?_ | refine g_then_exit ?_ | refine g_in_exit rfl ?_ | refine g_in_exit_ne (by decide) ?_ | refine g_seq ?_ | refine g_region ?_ | refine g_block ?_ | refine g_ret ?_ | refine g_return_n ?_ | refine g_exit ?_ | refine g_skip ?_)
          repeat (first | refine g_endt ?_ | refine g_end ?_ | refine g_then ?_ | refine g_in_normal ?_ | refine g_then_ret ?_ | refine g_in_ret ?_ | refine g_then_exit ?_ | refine g_in_exit rfl ?_ | refine g_in_exit_ne (by decide) ?_ | refine g_seq ?_ | refine g_region ?_ | refine g_block ?_ | refine g_ret ?_ | refine g_return_n ?_ | refine g_exit ?_ | refine g_skip ?_)
          refine g_hideR fun Q_ hQ_ => ?_
          refine o_move ?_
          refine o_assign ?_
          refine g_end (G.imp (hQ_ .normal _) ?_)
          clear hQ_ Q_
          try refine g_then ?_
          repeat (first | refine g_endt ?_ | refine g_end ?_ | refine g_then ?_ | refine g_in_normal ?_ | refine g_then_ret ?_ | refine g_in_ret ?_ | refine g_then_exit ?_ | refine g_in_exit rfl ?_ | refine g_in_exit_ne (by decide) ?_ | refine g_seq ?_ | refine g_region ?_ | refine g_block ?_ | refine g_ret ?_ | refine g_return_n ?_ | refine g_exit ?_ | refine g_skip ?_)
          refine g_hide fun Q_ hQ_ => ?_
          refine g_draw [] [0,1,2,3,4,5,6,7,8,9,10] [rC r room a os.length c0, psl encP 16 a os, cAct c8 q] mixed rfl ?_
          refine ob_q rfl rfl ⟨_, fun X Q h => o_move (g_end (h _ _ ⟨rfl, rfl⟩)), ?_⟩
          refine ob_q rfl rfl ⟨_, fun X Q h => o_nil rfl (g_end (h _ _ ⟨rfl, rfl⟩)), ?_⟩
          first | refine ob_q rfl rfl ⟨_, fun X Q h => o_field rfl (g_end (h _ _ ⟨rfl, rfl⟩)), ?_⟩ | refine ob_q rfl rfl ⟨_, fun X Q h => o_fieldR rfl (by omega) (g_end (h _ _ ⟨rfl, rfl⟩)), ?_⟩
          refine ob_q rfl rfl ⟨_, fun X Q h => o_load1 (v := .slice a os.length c0) rfl rfl (g_end (h _ _ ⟨rfl, rfl⟩)), ?_⟩
          refine ob_q rfl rfl ⟨_, fun X Q h => o_move (g_end (h _ _ ⟨rfl, rfl⟩)), ?_⟩
          refine ob_q rfl rfl ⟨_, fun X Q h => o_indexR (ys := os) (i := k) rfl rfl rfl hko rfl rfl (g_end (h _ _ ⟨rfl, rfl⟩)), ?_⟩
          refine ob_q rfl rfl ⟨_, fun X Q h => o_fieldR rfl (by omega) (g_end (h _ _ ⟨rfl, rfl⟩)), ?_⟩
          refine ob_q rfl rfl ⟨_, fun X Q h => o_loadEN (ys := os) (z := p) (v := p.id.val) rfl hp rfl rfl (g_end (h _ _ ⟨rfl, rfl⟩)), ?_⟩
          first | refine ob_q rfl rfl ⟨_, fun X Q h => o_field rfl (g_end (h _ _ ⟨rfl, rfl⟩)), ?_⟩ | refine ob_q rfl rfl ⟨_, fun X Q h => o_fieldR rfl (by omega) (g_end (h _ _ ⟨rfl, rfl⟩)), ?_⟩
          refine ob_q rfl rfl ⟨_, fun X Q h => o_loadN (v := q.id.val) rfl rfl rfl (g_end (h _ _ ⟨rfl, rfl⟩)), ?_⟩
          refine ob_q rfl rfl ⟨_, fun X Q h => o_neqty rfl rfl (eqT ht) (g_end (h _ _ ⟨rfl, rfl⟩)), ?_⟩
          refine ob_nil ?_
          refine G.imp (hQ_ .normal _) ?_
          clear hQ_ Q_
          try refine g_then ?_
          cases t with
          | true =>
            rw [if_neg (by decide), List.append_nil] at hft
            first | refine g_seq (g_cond_f rfl (by first | rfl | (simp; done) | (simp; omega) | (simp; assumption)) ?_) | refine g_cond_f rfl (by first | rfl | (simp; done) | (simp; omega) | (simp; assumption)) ?_
            repeat (first | refine g_endt ?_ | refine g_end ?_ | refine g_then ?_ | refine g_in_normal ?_ | refine g_then_ret ?_ | refine g_in_ret ?_ | refine g_then_exit ?_ | refine g_in_exit rfl ?_ | refine g_in_exit_ne (by decide) ?_ | refine g_seq ?_ | refine g_region ?_ | refine g_block ?_ | refine g_ret ?_ | refine g_return_n ?_ | refine g_exit ?_ | refine g_skip ?_)
            repeat (first | refine g_endt ?_ | refine g_end ?_ | refine g_then ?_ | refine g_in_normal ?_ | refine g_then_ret ?_ | refine g_in_ret ?_ | refine g_then_exit ?_ | refine g_in_exit rfl ?_ | refine g_in_exit_ne (by decide) ?_ | refine g_seq ?_ | refine g_region ?_ | refine g_block ?_ | refine g_ret ?_ | refine g_return_n ?_ | refine g_exit ?_ | refine g_skip ?_)
            refine g_hideR fun Q_ hQ_ => ?_
            refine o_add (c := ((k + 1 : Nat) : Int)) rfl rfl (by omega) (by omega) (by omega) ?_
            refine o_move ?_
            refine g_end (G.imp (hQ_ .normal _) ?_)
            clear hQ_ Q_
            try refine g_then ?_
            repeat (first | refine g_endt ?_ | refine g_end ?_ | refine g_then ?_ | refine g_in_normal ?_ | refine g_then_ret ?_ | refine g_in_ret ?_ | refine g_then_exit ?_ | refine g_in_exit rfl ?_ | refine g_in_exit_ne (by decide) ?_ | refine g_seq ?_ | refine g_region ?_ | refine g_block ?_ | refine g_ret ?_ | refine g_return_n ?_ | refine g_exit ?_ | refine g_skip ?_)
            exact g_meets ⟨(k + 1, S, s), hko⟩ (by show os.length - (k + 1) < os.length - k; omega) (Sat.mem ⟨rfl, rfl, rfl, rfl, rfl, rfl, rfl, by rw [hft]; rfl, rfl, rfl, trivial⟩) (t := by
              show Take _ (rC r room a os.length c0 :: psl encP 16 a os :: cAct c8 q :: MemP m room os :: oS S s (idsP q.id (os.take (k + 1))) :: paK A ys) _
              rw [hft]; infer_instance)
          | false =>
            rw [if_pos (by decide)] at hft
            first | refine g_seq (g_cond_t rfl (by first | rfl | (simp; done) | (simp; omega) | (simp; assumption)) ?_) | refine g_cond_t rfl (by first | rfl | (simp; done) | (simp; omega) | (simp; assumption)) ?_
            repeat (first | refine g_endt ?_ | refine g_end ?_ | refine g_then ?_ | refine g_in_normal ?_ | refine g_then_ret ?_ | refine g_in_ret ?_ | refine g_then_exit ?_ | refine g_in_exit rfl ?_ | refine g_in_exit_ne (by decide) ?_ | refine g_seq ?_ | refine g_region ?_ | refine g_block ?_ | refine g_ret ?_ | refine g_return_n ?_ | refine g_exit ?_ | refine g_skip ?_)
            refine g_hideR fun Q_ hQ_ => ?_
            refine o_move ?_
            refine o_move ?_
            refine o_nil rfl ?_
            first | refine o_field rfl ?_ | refine o_fieldR rfl (by omega) ?_
            refine o_load1 (v := .slice a os.length c0) rfl rfl ?_
            refine o_move ?_
            refine o_indexR (ys := os) (i := k) rfl rfl rfl hko rfl rfl ?_
            refine o_fieldR rfl (by omega) ?_
            refine o_loadEN (ys := os) (z := p) (v := p.id.val) rfl hp rfl rfl ?_
            refine o_litP (e := 39) encS [p.id] (p.id).val.cells (fun w => by kernel_rfl) (by simp [encS]) (by simp [maxLen]) fun _ => ?_
            refine o_append (xs := is) (ys := [p.id]) (by first | rfl | (simp only [List.length_map, List.length_take, List.length_append]; first | rfl | (congr 1; omega))) rfl rfl rfl rfl (fun _ => .inr trivial) (by simp [maxLen]; omega) (by simp; omega) fun S2 s2 => ?_
            refine o_assign ?_
            refine g_end (G.imp (hQ_ .normal _) ?_)
            clear hQ_ Q_
            try refine g_then ?_
            repeat (first | refine g_endt ?_ | refine g_end ?_ | refine g_then ?_ | refine g_in_normal ?_ | refine g_then_ret ?_ | refine g_in_ret ?_ | refine g_then_exit ?_ | refine g_in_exit rfl ?_ | refine g_in_exit_ne (by decide) ?_ | refine g_seq ?_ | refine g_region ?_ | refine g_block ?_ | refine g_ret ?_ | refine g_return_n ?_ | refine g_exit ?_ | refine g_skip ?_)
            repeat (first | refine g_endt ?_ | refine g_end ?_ | refine g_then ?_ | refine g_in_normal ?_ | refine g_then_ret ?_ | refine g_in_ret ?_ | refine g_then_exit ?_ | refine g_in_exit rfl ?_ | refine g_in_exit_ne (by decide) ?_ | refine g_seq ?_ | refine g_region ?_ | refine g_block ?_ | refine g_ret ?_ | refine g_return_n ?_ | refine g_exit ?_ | refine g_skip ?_)
            refine g_hideR fun Q_ hQ_ => ?_
            refine o_add (c := ((k + 1 : Nat) : Int)) rfl rfl (by omega) (by omega) (by omega) ?_
            refine o_move ?_
            refine g_end (G.imp (hQ_ .normal _) ?_)
            clear hQ_ Q_
            try refine g_then ?_
            repeat (first | refine g_endt ?_ | refine g_end ?_ | refine g_then ?_ | refine g_in_normal ?_ | refine g_then_ret ?_ | refine g_in_ret ?_ | refine g_then_exit ?_ | refine g_in_exit rfl ?_ | refine g_in_exit_ne (by decide) ?_ | refine g_seq ?_ | refine g_region ?_ | refine g_block ?_ | refine g_ret ?_ | refine g_return_n ?_ | refine g_exit ?_ | refine g_skip ?_)
            exact g_meets ⟨(k + 1, S2, s2), hko⟩ (by show os.length - (k + 1) < os.length - k; omega) (Sat.mem ⟨rfl, rfl, rfl, rfl, rfl, rfl, rfl, by rw [hft, List.length_append]; rfl, rfl, rfl, trivial⟩) (t := by
              show Take _ (rC r room a os.length c0 :: psl encP 16 a os :: cAct c8 q :: MemP m room os :: oS S2 s2 (idsP q.id (os.take (k + 1))) :: paK A ys) _
              rw [hft]; infer_instance)
        · first | refine g_seq (g_cond_f rfl (by simp; omega) ?_) | refine g_cond_f rfl (by simp; omega) ?_
          rw [List.take_of_length_le (by omega)] at hil ⊢
          refine shutRM r room os a c0 rfl ?_
          refine G.bring [oS S s (idsP q.id os)] (G.frz ?_)
          repeat (first | refine g_endt ?_ | refine g_end ?_ | refine g_then ?_ | refine g_in_normal ?_ | refine g_then_ret ?_ | refine g_in_ret ?_ | refine g_then_exit ?_ | refine g_in_exit rfl ?_ | refine g_in_exit_ne (by decide) ?_ | refine g_seq ?_ | refine g_region ?_ | refine g_block ?_ | refine g_ret ?_ | refine g_return_n ?_ | refine g_exit ?_ | refine g_skip ?_)
          refine g_hideR fun Q_ hQ_ => ?_
          refine o_move ?_
          refine o_move ?_
          refine o_call (Keep17_spec m room os (by omega) 27 [.pointer (some ⟨c8, 0, none⟩)] (fun p => !p.id.beq q.id) [cAct c8 q] (fun p _ => play1_spec c8 q p.id) (kept_one q.id os) rfl) rfl rfl ?_
          rintro _ _ ⟨rfl, rfl⟩
          refine o_move ?_
          refine o_move ?_
          refine o_call (KeepR15_spec r room os (by omega) S (idsP q.id os).length s (idsP q.id os) rfl (by omega) (kept_two q.id os) rfl) rfl rfl ?_
          rintro _ _ ⟨rfl, rfl⟩
          refine o_eqlT (t := true) rfl rfl (by simp) ?_
          refine o_assign ?_
          refine g_end (G.imp (hQ_ .normal _) ?_)
          clear hQ_ Q_
          try refine g_then ?_
          repeat (first | refine g_endt ?_ | refine g_end ?_ | refine g_then ?_ | refine g_in_normal ?_ | refine g_then_ret ?_ | refine g_in_ret ?_ | refine g_then_exit ?_ | refine g_in_exit rfl ?_ | refine g_in_exit_ne (by decide) ?_ | refine g_seq ?_ | refine g_region ?_ | refine g_block ?_ | refine g_ret ?_ | refine g_return_n ?_ | refine g_exit ?_ | refine g_skip ?_)
          exact g_meets () trivial (Sat.mem ⟨rfl, rfl, rfl, rfl, rfl, trivial⟩)
      · have hst : stepP room os q = (addR room os q.l.zs).2 := by unfold stepP; rw [if_neg (by rw [hdo]; exact h5), if_neg (by rw [hdo]; exact h6), if_neg (by rw [hdo]; exact h7)]
        obtain ⟨⟨v0, os'⟩, had⟩ : ∃ t, addR room os q.l.zs = t := ⟨_, rfl⟩
        rw [hst, had]
        repeat (first | refine g_endt ?_ | refine g_end ?_ | refine g_then ?_ | refine g_in_normal ?_ | refine g_then_ret ?_ | refine g_in_ret ?_ | refine g_then_exit ?_ | refine g_in_exit rfl ?_ | refine g_in_exit_ne (by decide) ?_ | refine g_seq ?_ | refine g_region ?_ | refine g_block ?_ | refine g_ret ?_ | refine g_return_n ?_ | refine g_exit ?_ | refine g_skip ?_)
        refine g_hideR fun Q_ hQ_ => ?_
        refine o_eqlT (t := false) rfl rfl (by simp; omega) ?_
        refine o_assign ?_
        refine g_end (G.imp (hQ_ .normal _) ?_)
        clear hQ_ Q_
        try refine g_then ?_
        first | refine g_seq (g_cond_f rfl (by first | rfl | (simp; done) | (simp; omega) | (simp; assumption)) ?_) | refine g_cond_f rfl (by first | rfl | (simp; done) | (simp; omega) | (simp; assumption)) ?_
        repeat (first | refine g_endt ?_ | refine g_end ?_ | refine g_then ?_ | refine g_in_normal ?_ | refine g_then_ret ?_ | refine g_in_ret ?_ | refine g_then_exit ?_ | refine g_in_exit rfl ?_ | refine g_in_exit_ne (by decide) ?_ | refine g_seq ?_ | refine g_region ?_ | refine g_block ?_ | refine g_ret ?_ | refine g_return_n ?_ | refine g_exit ?_ | refine g_skip ?_)
        refine g_hideR fun Q_ hQ_ => ?_
        refine o_eqlT (t := false) rfl rfl (by simp; omega) ?_
        refine o_assign ?_
        refine g_end (G.imp (hQ_ .normal _) ?_)
        clear hQ_ Q_
        try refine g_then ?_
        first | refine g_seq (g_cond_f rfl (by first | rfl | (simp; done) | (simp; omega) | (simp; assumption)) ?_) | refine g_cond_f rfl (by first | rfl | (simp; done) | (simp; omega) | (simp; assumption)) ?_
        repeat (first | refine g_endt ?_ | refine g_end ?_ | refine g_then ?_ | refine g_in_normal ?_ | refine g_then_ret ?_ | refine g_in_ret ?_ | refine g_then_exit ?_ | refine g_in_exit rfl ?_ | refine g_in_exit_ne (by decide) ?_ | refine g_seq ?_ | refine g_region ?_ | refine g_block ?_ | refine g_ret ?_ | refine g_return_n ?_ | refine g_exit ?_ | refine g_skip ?_)
        refine g_hideR fun Q_ hQ_ => ?_
        refine o_eqlT (t := false) rfl rfl (by simp; omega) ?_
        refine o_assign ?_
        refine g_end (G.imp (hQ_ .normal _) ?_)
        clear hQ_ Q_
        try refine g_then ?_
        first | refine g_seq (g_cond_f rfl (by first | rfl | (simp; done) | (simp; omega) | (simp; assumption)) ?_) | refine g_cond_f rfl (by first | rfl | (simp; done) | (simp; omega) | (simp; assumption)) ?_
        refine G.rowG (enc := encP) (sz := 16) (rs := ys.map PaD.l) (r := q.l) (List.mem_map.2 ⟨q, hqm, rfl⟩) ?_
        refine G.dup (psl encP 16 q.l.a q.l.zs) ?_
        repeat (first | refine g_endt ?_ | refine g_end ?_ | refine g_then ?_ | refine g_in_normal ?_ | refine g_then_ret ?_ | refine g_in_ret ?_ | refine g_then_exit ?_ | refine g_in_exit rfl ?_ | refine g_in_exit_ne (by decide) ?_ | refine g_seq ?_ | refine g_region ?_ | refine g_block ?_ | refine g_ret ?_ | refine g_return_n ?_ | refine g_exit ?_ | refine g_skip ?_)
        refine g_hideR fun Q_ hQ_ => ?_
        first | refine o_field rfl ?_ | refine o_fieldR rfl (by omega) ?_
        refine o_load1 (v := .slice q.l.a q.l.len q.l.cap) rfl rfl ?_
        refine o_call (CopyP_spec q.l.a q.l.len q.l.cap q.l.zs ll (by omega)) rfl rfl ?_
        rintro _ _ ⟨S1, e1, rfl, rfl⟩
        refine o_assign ?_
        refine g_end (G.imp (hQ_ .normal _) ?_)
        clear hQ_ Q_
        try refine g_then ?_
        repeat (first | refine g_endt ?_ | refine g_end ?_ | refine g_then ?_ | refine g_in_normal ?_ | refine g_then_ret ?_ | refine g_in_ret ?_ | refine g_then_exit ?_ | refine g_in_exit rfl ?_ | refine g_in_exit_ne (by decide) ?_ | refine g_seq ?_ | refine g_region ?_ | refine g_block ?_ | refine g_ret ?_ | refine g_return_n ?_ | refine g_exit ?_ | refine g_skip ?_)
        refine g_hide fun Q_ hQ_ => ?_
        refine g_draw [2,6,7] [0,1,3,4,5,2,6,7,8,9] [cAct c8 q] mixed rfl ?_
        refine ob_q rfl rfl ⟨_, fun X Q h => o_move (g_end (h _ _ ⟨rfl, rfl⟩)), ?_⟩
        refine ob_q rfl rfl ⟨_, fun X Q h => o_move (g_end (h _ _ ⟨rfl, rfl⟩)), ?_⟩
        refine ob_q rfl rfl ⟨_, fun X Q h => o_move (g_end (h _ _ ⟨rfl, rfl⟩)), ?_⟩
        first | refine ob_q rfl rfl ⟨_, fun X Q h => o_field rfl (g_end (h _ _ ⟨rfl, rfl⟩)), ?_⟩ | refine ob_q rfl rfl ⟨_, fun X Q h => o_fieldR rfl (by omega) (g_end (h _ _ ⟨rfl, rfl⟩)), ?_⟩
        refine ob_q rfl rfl ⟨_, fun X Q h => o_load1 (v := .slice q.l.a q.l.len q.l.cap) rfl rfl (g_end (h _ _ ⟨rfl, rfl⟩)), ?_⟩
        refine ob_l rfl rfl fun Qz hz => o_call (Add17OK_spec m room os S1 q.l.len e1 q.l.zs ll (by omega) (by omega) hsm had) rfl rfl ?_
        rintro _ _ ⟨rfl, rfl⟩
        refine g_end (hz _ _ ⟨_, ob_fin, ?_⟩)
        clear hz Qz
        refine ob_l rfl rfl fun Qz hz => o_call (CopyP_spec q.l.a q.l.len q.l.cap q.l.zs ll (by omega)) rfl rfl ?_
        rintro _ _ ⟨S2, e2, rfl, rfl⟩
        refine G.bring [oP S2 e2 q.l.zs] (G.frz ?_)
        refine g_end (hz _ _ ⟨_, ob_fin, ?_⟩)
        clear hz Qz
        refine ob_l rfl rfl fun Qz hz => o_call (AddR15K_spec r room os S2 q.l.len e2 q.l.zs ll (by omega) (by omega) hsm had) rfl rfl ?_
        rintro _ _ ⟨rfl, rfl⟩
        refine g_end (hz _ _ ⟨_, ob_fin, ?_⟩)
        clear hz Qz
        refine ob_q rfl rfl ⟨_, fun X Q h => o_eqlT (t := true) rfl rfl (by simp) (g_end (h _ _ ⟨rfl, rfl⟩)), ?_⟩
        refine ob_q rfl rfl ⟨_, fun X Q h => o_assign (g_end (h _ _ ⟨rfl, rfl⟩)), ?_⟩
        refine ob_nil ?_
        refine G.imp (hQ_ .normal _) ?_
        clear hQ_ Q_
        try refine g_then ?_
        repeat (first | refine g_endt ?_ | refine g_end ?_ | refine g_then ?_ | refine g_in_normal ?_ | refine g_then_ret ?_ | refine g_in_ret ?_ | refine g_then_exit ?_ | refine g_in_exit rfl ?_ | refine g_in_exit_ne (by decide) ?_ | refine g_seq ?_ | refine g_region ?_ | refine g_block ?_ | refine g_ret ?_ | refine g_return_n ?_ | refine g_exit ?_ | refine g_skip ?_)
        refine g_hideR fun Q_ hQ_ => ?_
        refine o_assign ?_
        refine g_end (G.imp (hQ_ .normal _) ?_)
        clear hQ_ Q_
        try refine g_then ?_
        repeat (first | refine g_endt ?_ | refine g_end ?_ | refine g_then ?_ | refine g_in_normal ?_ | refine g_then_ret ?_ | refine g_in_ret ?_ | refine g_then_exit ?_ | refine g_in_exit rfl ?_ | refine g_in_exit_ne (by decide) ?_ | refine g_seq ?_ | refine g_region ?_ | refine g_block ?_ | refine g_ret ?_ | refine g_return_n ?_ | refine g_exit ?_ | refine g_skip ?_)
        refine g_loop (σ := {t : Nat × List PrefD // t.1 ≤ q.l.len ∧ t.2.length = q.l.len}) (S := fun t => [(0, .pointer (some ⟨m, 0, none⟩)), (1, .pointer (some ⟨r, 0, none⟩)), (2, .slice A n c), (7, .int .i64 (i : Int)), (9, .bool true), (13, .slice S1 q.l.len e1), (14, .int .i64 (t.1.1 : Int))])
          (H := fun t => oP S1 e1 t.1.2 :: MemP m room os' :: RefM r room os' :: paK A ys) (μ := fun t => q.l.len - t.1.1) (s0 := ⟨(0, q.l.zs), Nat.zero_le _, ll⟩) (Sat.mem ⟨rfl, rfl, rfl, rfl, rfl, rfl, rfl, trivial⟩) ?_
        rintro ⟨⟨k, zs⟩, hk, hzl⟩ ρ2
        dsimp only at hk hzl ⊢
        repeat (first | refine g_endt ?_ | refine g_end ?_ | refine g_then ?_ | refine g_in_normal ?_ | refine g_then_ret ?_ | refine g_in_ret ?_ | refine g_then_exit ?_ | refine g_in_exit rfl ?_ | refine g_in_exit_ne (by decide) ?_ | refine g_seq ?_ | refine g_region ?_ | refine g_block ?_ | refine g_ret ?_ | refine g_return_n ?_ | refine g_exit ?_ | refine g_skip ?_)
        refine g_hideR fun Q_ hQ_ => ?_
        refine o_move ?_
        refine o_move ?_
        refine o_len rfl rfl ?_
        refine o_lss rfl rfl ?_
        refine g_end (G.imp (hQ_ .normal _) ?_)
        clear hQ_ Q_
        try refine g_then ?_
        by_cases hkn : k < q.l.len
        · first | refine g_seq (g_cond_t rfl (by first | rfl | (simp; done) | (simp; omega) | (simp; assumption)) ?_) | refine g_cond_t rfl (by first | rfl | (simp; done) | (simp; omega) | (simp; assumption)) ?_
          repeat (first | refine g_endt ?_ | refine g_end ?_ | refine g_then ?_ | refine g_in_normal ?_ | refine g_then_ret ?_ | refine g_in_ret ?_ | refine g_then_exit ?_ | refine g_in_exit rfl ?_ | refine g_in_exit_ne (by decide) ?_ | refine g_seq ?_ | refine g_region ?_ | refine g_block ?_ | refine g_ret ?_ | refine g_return_n ?_ | refine g_exit ?_ | refine g_skip ?_)
          repeat (first | refine g_endt ?_ | refine g_end ?_ | refine g_then ?_ | refine g_in_normal ?_ | refine g_then_ret ?_ | refine g_in_ret ?_ | refine g_then_exit ?_ | refine g_in_exit rfl ?_ | refine g_in_exit_ne (by decide) ?_ | refine g_seq ?_ | refine g_region ?_ | refine g_block ?_ | refine g_ret ?_ | refine g_return_n ?_ | refine g_exit ?_ | refine g_skip ?_)
          refine g_hideR fun Q_ hQ_ => ?_
          refine o_move ?_
          refine o_move ?_
          refine o_build zeroP.val (fun w => by kernel_rfl) ?_
          refine o_indexR (ys := zs) (i := k) rfl rfl rfl (by omega) hzl rfl ?_
          refine o_storeE (e := 41) (c := e1) (v := zeroP.val) (z := zeroP) (i := k) (enc := encP) (xs := zs) rfl rfl rfl rfl (by omega) ?_
          refine g_end (G.imp (hQ_ .normal _) ?_)
          clear hQ_ Q_
          try refine g_then ?_
          repeat (first | refine g_endt ?_ | refine g_end ?_ | refine g_then ?_ | refine g_in_normal ?_ | refine g_then_ret ?_ | refine g_in_ret ?_ | refine g_then_exit ?_ | refine g_in_exit rfl ?_ | refine g_in_exit_ne (by decide) ?_ | refine g_seq ?_ | refine g_region ?_ | refine g_block ?_ | refine g_ret ?_ | refine g_return_n ?_ | refine g_exit ?_ | refine g_skip ?_)
          repeat (first | refine g_endt ?_ | refine g_end ?_ | refine g_then ?_ | refine g_in_normal ?_ | refine g_then_ret ?_ | refine g_in_ret ?_ | refine g_then_exit ?_ | refine g_in_exit rfl ?_ | refine g_in_exit_ne (by decide) ?_ | refine g_seq ?_ | refine g_region ?_ | refine g_block ?_ | refine g_ret ?_ | refine g_return_n ?_ | refine g_exit ?_ | refine g_skip ?_)
          refine g_hideR fun Q_ hQ_ => ?_
          refine o_move ?_
          refine o_add (c := ((k + 1 : Nat) : Int)) rfl rfl (by omega) (by omega) (by omega) ?_
          refine o_assign ?_
          refine g_end (G.imp (hQ_ .normal _) ?_)
          clear hQ_ Q_
          try refine g_then ?_
          repeat (first | refine g_endt ?_ | refine g_end ?_ | refine g_then ?_ | refine g_in_normal ?_ | refine g_then_ret ?_ | refine g_in_ret ?_ | refine g_then_exit ?_ | refine g_in_exit rfl ?_ | refine g_in_exit_ne (by decide) ?_ | refine g_seq ?_ | refine g_region ?_ | refine g_block ?_ | refine g_ret ?_ | refine g_return_n ?_ | refine g_exit ?_ | refine g_skip ?_)
          exact g_meets ⟨(k + 1, zs.set k zeroP), hkn, by rw [List.length_set]; exact hzl⟩ (by show q.l.len - (k + 1) < q.l.len - k; omega) (Sat.mem ⟨rfl, rfl, rfl, rfl, rfl, rfl, rfl, trivial⟩)
        · first | refine g_seq (g_cond_f rfl (by simp; omega) ?_) | refine g_cond_f rfl (by simp; omega) ?_
          repeat (first | refine g_endt ?_ | refine g_end ?_ | refine g_then ?_ | refine g_in_normal ?_ | refine g_then_ret ?_ | refine g_in_ret ?_ | refine g_then_exit ?_ | refine g_in_exit rfl ?_ | refine g_in_exit_ne (by decide) ?_ | refine g_seq ?_ | refine g_region ?_ | refine g_block ?_ | refine g_ret ?_ | refine g_return_n ?_ | refine g_exit ?_ | refine g_skip ?_)
          exact g_meets () trivial (Sat.mem ⟨rfl, rfl, rfl, rfl, rfl, trivial⟩)
    rintro _ ρ2 _
    obtain ⟨ns, hns⟩ : ∃ ns, playP room ps (ys.take (i + 1)) = ns := ⟨_, rfl⟩
    rw [← hT', hns] at hsl ⊢
    refine openRM r room ns fun a c0 => ?_
    repeat (first | refine g_endt ?_ | refine g_end ?_ | refine g_then ?_ | refine g_in_normal ?_ | refine g_then_ret ?_ | refine g_in_ret ?_ | refine g_then_exit ?_ | refine g_in_exit rfl ?_ | refine g_in_exit_ne (by decide) ?_ | refine g_seq ?_ | refine g_region ?_ | refine g_block ?_ | refine g_ret ?_ | refine g_return_n ?_ | refine g_exit ?_ | refine g_skip ?_)
    refine g_hide fun Q_ hQ_ => ?_
    refine g_draw [4] [0,1,2,3,5,6,7,8,9,4,10,11] [rC r room a ns.length c0] mixed rfl ?_
    refine ob_q rfl rfl ⟨_, fun X Q h => o_move (g_end (h _ _ ⟨rfl, rfl⟩)), ?_⟩
    refine ob_q rfl rfl ⟨_, fun X Q h => o_not rfl (g_end (h _ _ ⟨rfl, rfl⟩)), ?_⟩
    refine ob_q rfl rfl ⟨_, fun X Q h => o_move (g_end (h _ _ ⟨rfl, rfl⟩)), ?_⟩
    first | refine ob_q rfl rfl ⟨_, fun X Q h => o_want rfl rfl rfl rfl rfl <| o_move (g_end (h _ _ ⟨rfl, rfl⟩)), ?_⟩ | refine ob_q rfl rfl ⟨_, fun X Q h => o_unwanted rfl rfl rfl rfl rfl (g_end (h _ _ ⟨rfl, rfl⟩)), ?_⟩ | refine ob_q rfl rfl ⟨_, fun X Q h => o_undef rfl rfl rfl (g_end (h _ _ ⟨rfl, rfl⟩)), ?_⟩
    first | refine ob_q rfl rfl ⟨_, fun X Q h => o_want rfl rfl rfl rfl rfl <| o_move (g_end (h _ _ ⟨rfl, rfl⟩)), ?_⟩ | refine ob_q rfl rfl ⟨_, fun X Q h => o_unwanted rfl rfl rfl rfl rfl (g_end (h _ _ ⟨rfl, rfl⟩)), ?_⟩ | refine ob_q rfl rfl ⟨_, fun X Q h => o_undef rfl rfl rfl (g_end (h _ _ ⟨rfl, rfl⟩)), ?_⟩
    first | refine ob_q rfl rfl ⟨_, fun X Q h => o_want rfl rfl rfl rfl rfl <| o_nil rfl (g_end (h _ _ ⟨rfl, rfl⟩)), ?_⟩ | refine ob_q rfl rfl ⟨_, fun X Q h => o_unwanted rfl rfl rfl rfl rfl (g_end (h _ _ ⟨rfl, rfl⟩)), ?_⟩ | refine ob_q rfl rfl ⟨_, fun X Q h => o_undef rfl rfl rfl (g_end (h _ _ ⟨rfl, rfl⟩)), ?_⟩
    first | refine ob_q rfl rfl ⟨_, fun X Q h => o_want rfl rfl rfl rfl rfl <| o_field rfl (g_end (h _ _ ⟨rfl, rfl⟩)), ?_⟩ | refine ob_q rfl rfl ⟨_, fun X Q h => o_want rfl rfl rfl rfl rfl <| o_fieldR rfl (by omega) (g_end (h _ _ ⟨rfl, rfl⟩)), ?_⟩ | refine ob_q rfl rfl ⟨_, fun X Q h => o_unwanted rfl rfl rfl rfl rfl (g_end (h _ _ ⟨rfl, rfl⟩)), ?_⟩ | refine ob_q rfl rfl ⟨_, fun X Q h => o_undef rfl rfl rfl (g_end (h _ _ ⟨rfl, rfl⟩)), ?_⟩
    refine ob_q rfl rfl ⟨_, fun X Q h => o_want rfl rfl rfl rfl rfl <| o_load1 (v := .slice a ns.length c0) rfl rfl (g_end (h _ _ ⟨rfl, rfl⟩)), ?_⟩
    first | refine ob_q rfl rfl ⟨_, fun X Q h => o_want rfl rfl rfl rfl rfl <| o_len rfl rfl (g_end (h _ _ ⟨rfl, rfl⟩)), ?_⟩ | refine ob_q rfl rfl ⟨_, fun X Q h => o_unwanted rfl rfl rfl rfl rfl (g_end (h _ _ ⟨rfl, rfl⟩)), ?_⟩ | refine ob_q rfl rfl ⟨_, fun X Q h => o_undef rfl rfl rfl (g_end (h _ _ ⟨rfl, rfl⟩)), ?_⟩
    refine ob_l rfl rfl fun Qz hz => o_want rfl rfl rfl rfl rfl <| o_call (Len17_spec m room ns) rfl rfl ?_
    rintro _ _ ⟨rfl, rfl⟩
    refine g_end (hz _ _ ⟨_, ob_fin, ?_⟩)
    clear hz Qz
    refine ob_q rfl rfl ⟨_, fun X Q h => o_want rfl rfl rfl rfl rfl <| o_neqT (t := false) rfl rfl (by simp) (g_end (h _ _ ⟨rfl, rfl⟩)), ?_⟩
    first | refine ob_q rfl rfl ⟨_, fun X Q h => o_pick_t rfl rfl (g_end (h _ _ ⟨rfl, rfl⟩)), ?_⟩ | refine ob_q rfl rfl ⟨_, fun X Q h => o_pick_f rfl rfl (g_end (h _ _ ⟨rfl, rfl⟩)), ?_⟩
    refine ob_nil ?_
    refine G.imp (hQ_ .normal _) ?_
    clear hQ_ Q_
    try refine g_then ?_
    first | refine g_seq (g_cond_f rfl (by first | rfl | (simp; done) | (simp; omega) | (simp; assumption)) ?_) | refine g_cond_f rfl (by first | rfl | (simp; done) | (simp; omega) | (simp; assumption)) ?_
    refine shutRM r room ns a c0 rfl ?_
    repeat (first | refine g_endt ?_ | refine g_end ?_ | refine g_then ?_ | refine g_in_normal ?_ | refine g_then_ret ?_ | refine g_in_ret ?_ | refine g_then_exit ?_ | refine g_in_exit rfl ?_ | refine g_in_exit_ne (by decide) ?_ | refine g_seq ?_ | refine g_region ?_ | refine g_block ?_ | refine g_ret ?_ | refine g_return_n ?_ | refine g_exit ?_ | refine g_skip ?_)
    repeat (first | refine g_endt ?_ | refine g_end ?_ | refine g_then ?_ | refine g_in_normal ?_ | refine g_then_ret ?_ | refine g_in_ret ?_ | refine g_then_exit ?_ | refine g_in_exit rfl ?_ | refine g_in_exit_ne (by decide) ?_ | refine g_seq ?_ | refine g_region ?_ | refine g_block ?_ | refine g_ret ?_ | refine g_return_n ?_ | refine g_exit ?_ | refine g_skip ?_)
    refine g_hideR fun Q_ hQ_ => ?_
    refine o_move ?_
    refine o_add (c := ((i + 1 : Nat) : Int)) rfl rfl (by omega) (by omega) (by omega) ?_
    refine o_assign ?_
    refine g_end (G.imp (hQ_ .normal _) ?_)
    clear hQ_ Q_
    try refine g_then ?_
    repeat (first | refine g_endt ?_ | refine g_end ?_ | refine g_then ?_ | refine g_in_normal ?_ | refine g_then_ret ?_ | refine g_in_ret ?_ | refine g_then_exit ?_ | refine g_in_exit rfl ?_ | refine g_in_exit_ne (by decide) ?_ | refine g_seq ?_ | refine g_region ?_ | refine g_block ?_ | refine g_ret ?_ | refine g_return_n ?_ | refine g_exit ?_ | refine g_skip ?_)
    exact g_meets ⟨i + 1, hin⟩ (by show n - (i + 1) < n - i; omega) (Sat.mem ⟨rfl, rfl, rfl, rfl, trivial⟩) (t := by
      show Take _ (MemP m room (playP room ps (ys.take (i + 1))) :: RefM r room (playP room ps (ys.take (i + 1))) :: paK A ys) _
      rw [hns]; infer_instance)
  · first | refine g_seq (g_cond_f rfl (by simp; omega) ?_) | refine g_cond_f rfl (by simp; omega) ?_
    rw [List.take_of_length_le (by omega)]
    have hpl := playP_len hroom ys hps
    generalize playP room ps ys = os at hpl ⊢
    refine openRM r room os fun a c0 => ?_
    repeat (first | refine g_endt ?_ | refine g_end ?_ | refine g_then ?_ | refine g_in_normal ?_ | refine g_then_ret ?_ | refine g_in_ret ?_ | refine g_then_exit ?_ | refine g_in_exit rfl ?_ | refine g_in_exit_ne (by decide) ?_ | refine g_seq ?_ | refine g_region ?_ | refine g_block ?_ | refine g_ret ?_ | refine g_return_n ?_ | refine g_exit ?_ | refine g_skip ?_)
    refine g_hide fun Q_ hQ_ => ?_
    refine g_draw [1,2,7] [0,3,4,5,6,1,2,7,8] [rC r room a os.length c0] mixed rfl ?_
    refine ob_q rfl rfl ⟨_, fun X Q h => o_move (g_end (h _ _ ⟨rfl, rfl⟩)), ?_⟩
    refine ob_q rfl rfl ⟨_, fun X Q h => o_move (g_end (h _ _ ⟨rfl, rfl⟩)), ?_⟩
    refine ob_q rfl rfl ⟨_, fun X Q h => o_nil rfl (g_end (h _ _ ⟨rfl, rfl⟩)), ?_⟩
    first | refine ob_q rfl rfl ⟨_, fun X Q h => o_field rfl (g_end (h _ _ ⟨rfl, rfl⟩)), ?_⟩ | refine ob_q rfl rfl ⟨_, fun X Q h => o_fieldR rfl (by omega) (g_end (h _ _ ⟨rfl, rfl⟩)), ?_⟩
    refine ob_q rfl rfl ⟨_, fun X Q h => o_load1 (v := .slice a os.length c0) rfl rfl (g_end (h _ _ ⟨rfl, rfl⟩)), ?_⟩
    refine ob_l rfl rfl fun Qz hz => o_call (All17_spec m) rfl rfl ?_
    rintro _ _ ⟨b, b1, rfl, rfl⟩
    refine g_end (hz _ _ ⟨_, ob_fin, ?_⟩)
    clear hz Qz
    refine ob_l rfl rfl fun Qz hz => o_callx (allK m b b1) [MemP m room os] (ListAll17_spec m room os (by omega) b b1) rfl rfl ?_
    rintro _ _ ⟨S2, e2, rfl, rfl⟩
    refine G.bring [oP S2 e2 os] (G.frz ?_)
    refine g_end (hz _ _ ⟨_, ob_fin, ?_⟩)
    clear hz Qz
    refine ob_l rfl rfl fun Qz hz => o_callp (Prefs_spec S2 a os.length e2 c0 os rfl (by omega)) rfl rfl ?_
    rintro _ _ ⟨rfl, rfl⟩
    refine g_end (hz _ _ ⟨_, ob_fin, ?_⟩)
    clear hz Qz
    refine ob_q rfl rfl ⟨_, fun X Q h => o_assign (g_end (h _ _ ⟨rfl, rfl⟩)), ?_⟩
    refine ob_nil ?_
    refine G.imp (hQ_ .normal _) ?_
    clear hQ_ Q_
    try refine g_then ?_
    refine shutRM r room os a c0 rfl ?_
    repeat (first | refine g_endt ?_ | refine g_end ?_ | refine g_then ?_ | refine g_in_normal ?_ | refine g_then_ret ?_ | refine g_in_ret ?_ | refine g_then_exit ?_ | refine g_in_exit rfl ?_ | refine g_in_exit_ne (by decide) ?_ | refine g_seq ?_ | refine g_region ?_ | refine g_block ?_ | refine g_ret ?_ | refine g_return_n ?_ | refine g_exit ?_ | refine g_skip ?_)
    exact ret1 (K := [MemP m room os, RefM r room os]) rfl (resT rfl) ⟨rfl, rfl⟩
end Go.Proofs.YtonaccfoelgpnaaGreat
/- A region that draws its order: a step behind which what may be read is picked anew. Plain library, no program in sight. -/
namespace Go.Sl
open Go Go.Proofs

section
variable {w0 : World} {A : SProp} {ro : Option Nat} {P : Program} {n : Nat} {ds : List Nat} {l : List Oper} {lou : List Nat} {Lq : List SProp} {K : (Nat → Value) → List SProp → Prop} {i : Nat} {π : List Nat} {ρ : Nat → Value} {Lp : List SProp} {o : Oper}
/-- As 'ob_s', where what may be read from here on is told by what the step leaves. -/
theorem ob_s2 (hi : l[i]? = some o) (hl : lou.contains i = true) (hs : okSync (masks l []) l.length i π = true)
    (h : OStep w0 A ro P l.toArray n ds ρ (Lq ++ Lp) o (fun v M => ∃ Lq' Lp', Ent (sl M) (sl (Lq' ++ Lp')) ∧ Ob w0 A ro P l n ds lou Lq' K π (updo ρ o.dst v) Lp')) :
    Ob w0 A ro P l n ds lou Lq K (i :: π) ρ Lp := by
  simp only [Ob, ObR, hi, hl, if_true]
  exact fun Q hn => h Q fun v M ⟨Lq', Lp', h1, h2⟩ => hn v M ⟨Lq', Lp', h1, .inr hs, h2⟩
end
end Go.Sl
