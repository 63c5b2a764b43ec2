/- The plain map of the statements: found. -/
import Derived.Test.YtlognaddmbolgaaK7
namespace Go.Proofs.Ytlognaddmbolgaa
open Go Go.Sl
attribute [local irreducible] Code.wpIn roundPost bodyPostM runL Ret Meets Begin

/-- The plain map at p: its keys' list stays, its values' list is owned. -/
def PlA (p : Nat) (ys : List PgSI) : SProp := ex fun r : Option Addr × Nat × Option Addr × Nat =>
  sl [pu (ys.length ≤ r.2.1), cellsB p #[.slice r.1 ys.length r.2.1, .slice r.2.2.1 ys.length r.2.2.2] 48, psl encS 3 r.1 (ys.map PgSI.k), osl 3 encI 1 r.2.2.1 r.2.2.2 (ys.map PgSI.v)]
section
variable {w0 : World} {A : SProp} {L M : List SProp} {Φ : World → Prop}
theorem openPl (p : Nat) (ys : List PgSI) [tk : Take1 L (PlA p ys) M]
    (h : ∀ K c V d, ys.length ≤ c → G w0 A ([cellsB p #[.slice K ys.length c, .slice V ys.length d] 48, psl encS 3 K (ys.map PgSI.k), osl 3 encI 1 V d (ys.map PgSI.v)] ++ M) Φ) : G w0 A L Φ :=
  G.perm tk.perm (G.ex fun ⟨K, c, V, d⟩ => G.open_sl (G.pu fun hc => h K c V d hc))
theorem shutPl (p : Nat) (ys : List PgSI) (K V : Option Addr) (c d : Nat) {n : Nat} (hn : ys.length = n) (hc : n ≤ c)
    [tk : Take L [cellsB p #[.slice K n c, .slice V n d] 48, psl encS 3 K (ys.map PgSI.k), osl 3 encI 1 V d (ys.map PgSI.v)] M] (h : G w0 A (PlA p ys :: M) Φ) : G w0 A L Φ := by
  subst hn
  refine G.perm tk.perm (G.pu_in hc (G.ent (L := [pu (ys.length ≤ c), cellsB p #[.slice K ys.length c, .slice V ys.length d] 48, psl encS 3 K (ys.map PgSI.k), osl 3 encI 1 V d (ys.map PgSI.v)] ++ M) (L' := PlA p ys :: M) ?_ h))
  exact (sl_append_to _ M).trans (Ent.star (show Ent _ (PlA p ys) from fun _ _ x => ⟨(K, c, V, d), x⟩) (Ent.refl _))
end
/-- At which place a key is, if at any. -/
def PlF (ys : List PgSI) (s : SymD) : Option Nat → Prop
  | some i => ∃ y, ys[i]? = some y ∧ y.k = s
  | none => ∀ y ∈ ys, y.k ≠ s
def plN : Option Nat → Int
  | some i => (i : Int)
  | none => -1
theorem findPl_spec (p : Nat) (ys : List PgSI) (s : SymD) (hl : ys.length ≤ 100000) : Ctr Try.prog 41 [.pointer (some ⟨p, 0, none⟩), s.val] [PlA p ys]
    (fun v M => ∃ r, v = .int .i64 (plN r) ∧ M = [PlA p ys] ∧ PlF ys s r) := by
  refine spec_of Try.func41 rfl Try.ntmps41 rfl fun w0 F => ?_
  repeat (first | refine g_endt ?_ | refine g_end ?_ | refine g_then ?_ | refine g_in_normal ?_ | refine g_then_ret ?_ | refine g_in_ret ?_ | refine g_then_exit ?_ | refine g_in_exit rfl ?_ | refine g_in_exit_ne (by decide) ?_ | refine g_seq ?_ | refine g_region ?_ | refine g_block ?_ | refine g_ret ?_ | refine g_return_n ?_ | refine g_exit ?_ | refine g_skip ?_)
  refine openPl p ys fun K c V d hc => ?_
  refine o_boxc s.val.cells rfl rfl fun q => ?_
  refine o_assign ?_
  refine g_endt ?_
  repeat (first | refine g_endt ?_ | refine g_end ?_ | refine g_then ?_ | refine g_in_normal ?_ | refine g_then_ret ?_ | refine g_in_ret ?_ | refine g_then_exit ?_ | refine g_in_exit rfl ?_ | refine g_in_exit_ne (by decide) ?_ | refine g_seq ?_ | refine g_region ?_ | refine g_block ?_ | refine g_ret ?_ | refine g_return_n ?_ | refine g_exit ?_ | refine g_skip ?_)
  refine o_assign ?_
  refine g_endt ?_
  repeat (first | refine g_endt ?_ | refine g_end ?_ | refine g_then ?_ | refine g_in_normal ?_ | refine g_then_ret ?_ | refine g_in_ret ?_ | refine g_then_exit ?_ | refine g_in_exit rfl ?_ | refine g_in_exit_ne (by decide) ?_ | refine g_seq ?_ | refine g_region ?_ | refine g_block ?_ | refine g_ret ?_ | refine g_return_n ?_ | refine g_exit ?_ | refine g_skip ?_)
  have hkl : (ys.map PgSI.k).length = ys.length := List.length_map _
  refine g_loop (σ := {i : Nat // i ≤ ys.length ∧ ∀ (j : Nat) (y : PgSI), j < i → ys[j]? = some y → y.k ≠ s}) (S := fun i => [(0, .pointer (some ⟨p, 0, none⟩)), (3, .pointer (some ⟨q, 0, none⟩)), (5, .int .i64 (i.1 : Int))])
    (H := fun _ => [cellsB p #[.slice K ys.length c, .slice V ys.length d] 48, psl encS 3 K (ys.map PgSI.k), cellsB q s.val.cells 27, osl 3 encI 1 V d (ys.map PgSI.v)]) (μ := fun i => ys.length - i.1)
    (s0 := ⟨0, Nat.zero_le _, fun j y h => absurd h (Nat.not_lt_zero j)⟩) (Sat.mem ⟨rfl, rfl, rfl, trivial⟩) ?_
  rintro ⟨i, hi, hlow⟩ ρ'
  dsimp only at hi hlow ⊢
  repeat (first | refine g_endt ?_ | refine g_end ?_ | refine g_then ?_ | refine g_in_normal ?_ | refine g_then_ret ?_ | refine g_in_ret ?_ | refine g_then_exit ?_ | refine g_in_exit rfl ?_ | refine g_in_exit_ne (by decide) ?_ | refine g_seq ?_ | refine g_region ?_ | refine g_block ?_ | refine g_ret ?_ | refine g_return_n ?_ | refine g_exit ?_ | refine g_skip ?_)
  refine o_move ?_
  refine o_move ?_
  refine o_nil rfl ?_
  refine o_field rfl ?_
  refine o_load1 (v := .slice K ys.length c) rfl rfl ?_
  refine o_len rfl rfl ?_
  refine o_lss rfl rfl ?_
  refine g_endt ?_
  by_cases h : i < ys.length
  · first | refine g_seq (g_cond_t rfl (by simpa using h) ?_) | refine g_cond_t rfl (by simpa using h) ?_
    obtain ⟨y, hy⟩ : ∃ y, ys[i]? = some y := ⟨_, List.getElem?_eq_getElem h⟩
    have hyk : (ys.map PgSI.k)[i]? = some y.k := by rw [List.getElem?_map, hy]; rfl
    repeat (first | refine g_endt ?_ | refine g_end ?_ | refine g_then ?_ | refine g_in_normal ?_ | refine g_then_ret ?_ | refine g_in_ret ?_ | refine g_then_exit ?_ | refine g_in_exit rfl ?_ | refine g_in_exit_ne (by decide) ?_ | refine g_seq ?_ | refine g_region ?_ | refine g_block ?_ | refine g_ret ?_ | refine g_return_n ?_ | refine g_exit ?_ | refine g_skip ?_)
    refine g_draw [] [0,1,2,3,4,5,6,7,8] [cellsB p #[.slice K ys.length c, .slice V ys.length d] 48, psl encS 3 K (ys.map PgSI.k), cellsB q s.val.cells 27] mixed rfl ?_
    refine ob_q rfl rfl ⟨_, fun X Q h => o_move (g_end (h _ _ ⟨rfl, rfl⟩)), ?_⟩
    refine ob_q rfl rfl ⟨_, fun X Q h => o_nil rfl (g_end (h _ _ ⟨rfl, rfl⟩)), ?_⟩
    refine ob_q rfl rfl ⟨_, fun X Q h => o_field rfl (g_end (h _ _ ⟨rfl, rfl⟩)), ?_⟩
    refine ob_q rfl rfl ⟨_, fun X Q h => o_load1 (v := .slice K ys.length c) rfl rfl (g_end (h _ _ ⟨rfl, rfl⟩)), ?_⟩
    refine ob_q rfl rfl ⟨_, fun X Q h => o_move (g_end (h _ _ ⟨rfl, rfl⟩)), ?_⟩
    refine ob_q rfl rfl ⟨_, fun X Q h => o_indexR (ys := ys.map PgSI.k) (i := i) rfl rfl rfl (by omega) hkl rfl (g_end (h _ _ ⟨rfl, rfl⟩)), ?_⟩
    refine ob_q rfl rfl ⟨_, fun X Q h => o_loadE (ys := ys.map PgSI.k) rfl rfl hyk (g_end (h _ _ ⟨rfl, rfl⟩)), ?_⟩
    refine ob_q rfl rfl ⟨_, fun X Q h => o_loadN (v := s.val) rfl rfl rfl (g_end (h _ _ ⟨rfl, rfl⟩)), ?_⟩
    refine ob_q rfl rfl ⟨_, fun X Q h => o_eqty rfl rfl (eq_sym y.k s) (g_end (h _ _ ⟨rfl, rfl⟩)), ?_⟩
    refine ob_nil ?_
    cases hb : y.k.beq s
    · first | refine g_seq (g_cond_f rfl (rfl) ?_) | refine g_cond_f rfl (rfl) ?_
      have hne : y.k ≠ s := fun e => by rw [e, SymD.beq_self] at hb; cases hb
      repeat (first | refine g_endt ?_ | refine g_end ?_ | refine g_then ?_ | refine g_in_normal ?_ | refine g_then_ret ?_ | refine g_in_ret ?_ | refine g_then_exit ?_ | refine g_in_exit rfl ?_ | refine g_in_exit_ne (by decide) ?_ | refine g_seq ?_ | refine g_region ?_ | refine g_block ?_ | refine g_ret ?_ | refine g_return_n ?_ | refine g_exit ?_ | refine g_skip ?_)
      refine o_move ?_
      refine o_add (c := ((i + 1 : Nat) : Int)) rfl rfl (by omega) (by omega) (by omega) ?_
      refine o_assign ?_
      refine g_endt ?_
      repeat (first | refine g_endt ?_ | refine g_end ?_ | refine g_then ?_ | refine g_in_normal ?_ | refine g_then_ret ?_ | refine g_in_ret ?_ | refine g_then_exit ?_ | refine g_in_exit rfl ?_ | refine g_in_exit_ne (by decide) ?_ | refine g_seq ?_ | refine g_region ?_ | refine g_block ?_ | refine g_ret ?_ | refine g_return_n ?_ | refine g_exit ?_ | refine g_skip ?_)
      refine g_meets ⟨i + 1, h, fun j z hj hz => ?_⟩ (by show ys.length - (i + 1) < ys.length - i; omega) (Sat.mem ⟨rfl, rfl, rfl, trivial⟩)
      by_cases e : j = i
      · subst e; rw [hy] at hz; cases hz; exact hne
      · exact hlow j z (by omega) hz
    · first | refine g_seq (g_cond_t rfl (rfl) ?_) | refine g_cond_t rfl (rfl) ?_
      repeat (first | refine g_endt ?_ | refine g_end ?_ | refine g_then ?_ | refine g_in_normal ?_ | refine g_then_ret ?_ | refine g_in_ret ?_ | refine g_then_exit ?_ | refine g_in_exit rfl ?_ | refine g_in_exit_ne (by decide) ?_ | refine g_seq ?_ | refine g_region ?_ | refine g_block ?_ | refine g_ret ?_ | refine g_return_n ?_ | refine g_exit ?_ | refine g_skip ?_)
      refine o_move ?_
      refine o_assign ?_
      refine g_endt ?_
      refine shutPl p ys K V c d rfl hc ?_
      repeat (first | refine g_endt ?_ | refine g_end ?_ | refine g_then ?_ | refine g_in_normal ?_ | refine g_then_ret ?_ | refine g_in_ret ?_ | refine g_then_exit ?_ | refine g_in_exit rfl ?_ | refine g_in_exit_ne (by decide) ?_ | refine g_seq ?_ | refine g_region ?_ | refine g_block ?_ | refine g_ret ?_ | refine g_return_n ?_ | refine g_exit ?_ | refine g_skip ?_)
      exact ret1 (K := [PlA p ys]) rfl (resT (v := .int .i64 (i : Int)) rfl) ⟨some i, rfl, rfl, y, hy, (SymD.beq_iff _ _).1 hb⟩
  · first | refine g_seq (g_cond_f rfl (by simpa using h) ?_) | refine g_cond_f rfl (by simpa using h) ?_
    repeat (first | refine g_endt ?_ | refine g_end ?_ | refine g_then ?_ | refine g_in_normal ?_ | refine g_then_ret ?_ | refine g_in_ret ?_ | refine g_then_exit ?_ | refine g_in_exit rfl ?_ | refine g_in_exit_ne (by decide) ?_ | refine g_seq ?_ | refine g_region ?_ | refine g_block ?_ | refine g_ret ?_ | refine g_return_n ?_ | refine g_exit ?_ | refine g_skip ?_)
    refine o_assign ?_
    refine g_endt ?_
    refine shutPl p ys K V c d rfl hc ?_
    repeat (first | refine g_endt ?_ | refine g_end ?_ | refine g_then ?_ | refine g_in_normal ?_ | refine g_then_ret ?_ | refine g_in_ret ?_ | refine g_then_exit ?_ | refine g_in_exit rfl ?_ | refine g_in_exit_ne (by decide) ?_ | refine g_seq ?_ | refine g_region ?_ | refine g_block ?_ | refine g_ret ?_ | refine g_return_n ?_ | refine g_exit ?_ | refine g_skip ?_)
    exact ret1 (K := [PlA p ys]) rfl (resT (v := .int .i64 (-1)) rfl) ⟨none, rfl, rfl, fun y hy => by
      obtain ⟨j, hj⟩ := List.mem_iff_getElem?.1 hy
      exact hlow j y (by have := (List.getElem?_eq_some_iff.1 hj).1; omega) hj⟩
end Go.Proofs.Ytlognaddmbolgaa
