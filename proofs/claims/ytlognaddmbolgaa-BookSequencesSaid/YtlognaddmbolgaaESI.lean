/- An ordered set's functions, for one type of members: find, own. -/
import Derived.Test.YtlognaddmbolgaaPSI
namespace Go.Proofs.Ytlognaddmbolgaa
open Go Go.Sl
attribute [local irreducible] Code.wpIn roundPost bodyPostM runL Ret Meets Begin

abbrev SetASI (p : Nat) (ys : List PgSI) : SProp := SetP 145 110 PgSI.enc 4 p ys
section
variable {w0 : World} {A : SProp} {L M : List SProp} {Φ : World → Prop}
theorem openSI (p : Nat) (ys : List PgSI) [tk : Take1 L (SetASI p ys) M] (h : ∀ S c b, G w0 A (cellsB p #[.slice S ys.length c, .bool b] 145 :: row 110 PgSI.enc 4 b S c ys :: M) Φ) : G w0 A L Φ := SetP.open h
theorem shutSI (p : Nat) (ys : List PgSI) (S : Option Addr) (c : Nat) (b : Bool) {len : Nat} (hl : ys.length = len) [tk : Take L [cellsB p #[.slice S len c, .bool b] 145, row 110 PgSI.enc 4 b S c ys] M] (h : G w0 A (SetASI p ys :: M) Φ) : G w0 A L Φ := SetP.shut (S := S) (c := c) (b := b) hl h
theorem shutFSI (p : Nat) (ys : List PgSI) (S : Option Addr) (c : Nat) {len : Nat} (hl : ys.length = len) [tk : Take L [cellsB p #[.slice S len c, .bool false] 145, osl 110 PgSI.enc 4 S c ys] M] (h : G w0 A (SetASI p ys :: M) Φ) : G w0 A L Φ := SetP.shut (S := S) (c := c) (b := false) hl (tk := tk) h
theorem shutTSI (p : Nat) (ys : List PgSI) (S : Option Addr) (c : Nat) {len : Nat} (hl : ys.length = len) [tk : Take L [cellsB p #[.slice S len c, .bool true] 145, psl PgSI.enc 4 S ys] M] (h : G w0 A (SetASI p ys :: M) Φ) : G w0 A L Φ := SetP.shut (S := S) (c := c) (b := true) hl (tk := tk) h
end
theorem findSI_spec (p : Nat) (ys : List PgSI) (x : PgSI) (hs : Srt PgSI.cmp ys) (hl : ys.length ≤ 1000000000) : Ctr Try.prog 82 [.pointer (some ⟨p, 0, none⟩), x.val] [SetASI p ys]
    (fun v M => ∃ (k : Nat) (there : Bool), v = .tuple #[.int .i64 (k : Int), .bool there] ∧ M = [SetASI p ys] ∧ FindR PgSI.cmp ys x k there) := by
  refine spec_of Try.func82 rfl Try.ntmps82 rfl fun w0 F => ?_
  repeat (first | refine g_endt ?_ | refine g_end ?_ | refine g_then ?_ | refine g_in_normal ?_ | refine g_then_ret ?_ | refine g_in_ret ?_ | refine g_then_exit ?_ | refine g_in_exit rfl ?_ | refine g_in_exit_ne (by decide) ?_ | refine g_seq ?_ | refine g_region ?_ | refine g_block ?_ | refine g_ret ?_ | refine g_return_n ?_ | refine g_exit ?_ | refine g_skip ?_)
  refine openSI p ys fun S c b => ?_
  refine o_boxc x.val.cells rfl rfl fun q => ?_
  refine o_assign ?_
  refine o_assign ?_
  first | refine g_endt ?_ | refine g_end ?_
  repeat (first | refine g_endt ?_ | refine g_end ?_ | refine g_then ?_ | refine g_in_normal ?_ | refine g_then_ret ?_ | refine g_in_ret ?_ | refine g_then_exit ?_ | refine g_in_exit rfl ?_ | refine g_in_exit_ne (by decide) ?_ | refine g_seq ?_ | refine g_region ?_ | refine g_block ?_ | refine g_ret ?_ | refine g_return_n ?_ | refine g_exit ?_ | refine g_skip ?_)
  refine g_draw [] [0,1,2,3,4,5,6] [cellsB p #[.slice S ys.length c, .bool b] 145] mixed rfl ?_
  refine ob_q rfl rfl ⟨_, fun X Q h => o_move (g_end (h _ _ ⟨rfl, rfl⟩)), ?_⟩
  refine ob_q rfl rfl ⟨_, fun X Q h => o_nil rfl (g_end (h _ _ ⟨rfl, rfl⟩)), ?_⟩
  refine ob_q rfl rfl ⟨_, fun X Q h => o_field rfl (g_end (h _ _ ⟨rfl, rfl⟩)), ?_⟩
  refine ob_q rfl rfl ⟨_, fun X Q h => o_load1 rfl rfl (g_end (h _ _ ⟨rfl, rfl⟩)), ?_⟩
  refine ob_q rfl rfl ⟨_, fun X Q h => o_len rfl rfl (g_end (h _ _ ⟨rfl, rfl⟩)), ?_⟩
  refine ob_q rfl rfl ⟨_, fun X Q h => o_assign (g_end (h _ _ ⟨rfl, rfl⟩)), ?_⟩
  refine ob_q rfl rfl ⟨_, fun X Q h => o_assign (g_end (h _ _ ⟨rfl, rfl⟩)), ?_⟩
  refine ob_nil ?_
  repeat (first | refine g_endt ?_ | refine g_end ?_ | refine g_then ?_ | refine g_in_normal ?_ | refine g_then_ret ?_ | refine g_in_ret ?_ | refine g_then_exit ?_ | refine g_in_exit rfl ?_ | refine g_in_exit_ne (by decide) ?_ | refine g_seq ?_ | refine g_region ?_ | refine g_block ?_ | refine g_ret ?_ | refine g_return_n ?_ | refine g_exit ?_ | refine g_skip ?_)
  refine g_loop (σ := {s : Nat × Nat // s.1 ≤ s.2 ∧ s.2 ≤ ys.length ∧ (∀ (j : Nat) (y : PgSI), j < s.1 → ys[j]? = some y → PgSI.cmp y x < 0) ∧ ∀ (j : Nat) (y : PgSI), s.2 ≤ j → ys[j]? = some y → 0 < PgSI.cmp y x})
    (S := fun s => [(0, .pointer (some ⟨p, 0, none⟩)), (3, .pointer (some ⟨q, 0, none⟩)), (6, .int .i64 (s.1.1 : Int)), (7, .int .i64 (s.1.2 : Int))])
    (H := fun _ => [cellsB p #[.slice S ys.length c, .bool b] 145, row 110 PgSI.enc 4 b S c ys, cellsB q x.val.cells 110]) (μ := fun s => s.1.2 - s.1.1)
    (s0 := ⟨(0, ys.length), Nat.zero_le _, Nat.le_refl _, fun j y h => absurd h (Nat.not_lt_zero j), fun j y h e => by rw [List.getElem?_eq_none h] at e; cases e⟩) (Sat.mem ⟨rfl, rfl, rfl, rfl, trivial⟩) ?_
  rintro ⟨⟨lo, hi⟩, h1, h2, h3, h4⟩ ρ'
  dsimp only at h1 h2 h3 h4 ⊢
  repeat (first | refine g_endt ?_ | refine g_end ?_ | refine g_then ?_ | refine g_in_normal ?_ | refine g_then_ret ?_ | refine g_in_ret ?_ | refine g_then_exit ?_ | refine g_in_exit rfl ?_ | refine g_in_exit_ne (by decide) ?_ | refine g_seq ?_ | refine g_region ?_ | refine g_block ?_ | refine g_ret ?_ | refine g_return_n ?_ | refine g_exit ?_ | refine g_skip ?_)
  refine o_move ?_
  refine o_move ?_
  refine o_lss rfl rfl ?_
  first | refine g_endt ?_ | refine g_end ?_
  by_cases h : lo < hi
  · first | refine g_seq (g_cond_t rfl (by simpa using h) ?_) | refine g_cond_t rfl (by simpa using h) ?_
    repeat (first | refine g_endt ?_ | refine g_end ?_ | refine g_then ?_ | refine g_in_normal ?_ | refine g_then_ret ?_ | refine g_in_ret ?_ | refine g_then_exit ?_ | refine g_in_exit rfl ?_ | refine g_in_exit_ne (by decide) ?_ | refine g_seq ?_ | refine g_region ?_ | refine g_block ?_ | refine g_ret ?_ | refine g_return_n ?_ | refine g_exit ?_ | refine g_skip ?_)
    refine o_move ?_
    refine o_move ?_
    refine o_move ?_
    refine o_sub (c := ((hi - lo : Nat) : Int)) rfl rfl (by omega) (by omega) (by omega) ?_
    refine o_quo (c := (((hi - lo) / 2 : Nat) : Int)) rfl rfl (by decide) (by rw [Int.tdiv_eq_ediv_of_nonneg (by omega)]; omega) (by omega) (by omega) ?_
    refine o_add (c := ((lo + (hi - lo) / 2 : Nat) : Int)) rfl rfl (by omega) (by omega) (by omega) ?_
    generalize hmid : lo + (hi - lo) / 2 = mid
    have hm1 : lo ≤ mid := by omega
    have hm2 : mid < hi := by omega
    have hm3 : mid < ys.length := by omega
    obtain ⟨y, hy⟩ : ∃ y, ys[mid]? = some y := ⟨_, List.getElem?_eq_getElem hm3⟩
    refine o_assign ?_
    refine g_endt ?_
    repeat (first | refine g_endt ?_ | refine g_end ?_ | refine g_then ?_ | refine g_in_normal ?_ | refine g_then_ret ?_ | refine g_in_ret ?_ | refine g_then_exit ?_ | refine g_in_exit rfl ?_ | refine g_in_exit_ne (by decide) ?_ | refine g_seq ?_ | refine g_region ?_ | refine g_block ?_ | refine g_ret ?_ | refine g_return_n ?_ | refine g_exit ?_ | refine g_skip ?_)
    refine g_draw [] [0,1,2,3,4,5,6,7,8,9,10] [cellsB p #[.slice S ys.length c, .bool b] 145, row 110 PgSI.enc 4 b S c ys, cellsB q x.val.cells 110] mixed rfl ?_
    refine ob_q rfl rfl ⟨_, fun X Q h => o_move (g_end (h _ _ ⟨rfl, rfl⟩)), ?_⟩
    refine ob_q rfl rfl ⟨_, fun X Q h => o_nil rfl (g_end (h _ _ ⟨rfl, rfl⟩)), ?_⟩
    refine ob_q rfl rfl ⟨_, fun X Q h => o_field rfl (g_end (h _ _ ⟨rfl, rfl⟩)), ?_⟩
    refine ob_q rfl rfl ⟨_, fun X Q h => o_load1 (v := .slice S ys.length c) rfl rfl (g_end (h _ _ ⟨rfl, rfl⟩)), ?_⟩
    refine ob_q rfl rfl ⟨_, fun X Q h => o_move (g_end (h _ _ ⟨rfl, rfl⟩)), ?_⟩
    refine ob_q rfl rfl ⟨_, fun X Q h => o_indexR (ys := ys) (i := mid) rfl rfl rfl hm3 rfl rfl (g_end (h _ _ ⟨rfl, rfl⟩)), ?_⟩
    refine ob_q rfl rfl ⟨_, fun X Q h => o_loadE (ys := ys) rfl rfl hy (g_end (h _ _ ⟨rfl, rfl⟩)), ?_⟩
    refine ob_q rfl rfl ⟨_, fun X Q h => o_iface (u := y.val) rfl (fun w => by kernel_rfl) (g_end (h _ _ ⟨rfl, rfl⟩)), ?_⟩
    refine ob_q rfl rfl ⟨_, fun X Q h => o_loadN (v := x.val) rfl rfl rfl (g_end (h _ _ ⟨rfl, rfl⟩)), ?_⟩
    refine ob_q rfl rfl ⟨_, fun X Q h => o_invoke (PgSI.cmp_spec y x) rfl rfl (fun w => by kernel_rfl) <| by rintro _ _ ⟨rfl, rfl⟩; exact (g_end (h _ _ ⟨rfl, rfl⟩)), ?_⟩
    refine ob_q rfl rfl ⟨_, fun X Q h => o_assign (g_end (h _ _ ⟨rfl, rfl⟩)), ?_⟩
    refine ob_nil ?_
    repeat (first | refine g_endt ?_ | refine g_end ?_ | refine g_then ?_ | refine g_in_normal ?_ | refine g_then_ret ?_ | refine g_in_ret ?_ | refine g_then_exit ?_ | refine g_in_exit rfl ?_ | refine g_in_exit_ne (by decide) ?_ | refine g_seq ?_ | refine g_region ?_ | refine g_block ?_ | refine g_ret ?_ | refine g_return_n ?_ | refine g_exit ?_ | refine g_skip ?_)
    refine o_move ?_
    refine o_eql rfl rfl ?_
    first | refine g_endt ?_ | refine g_end ?_
    by_cases hc : PgSI.cmp y x = 0
    · first | refine g_seq (g_cond_t rfl (by simpa using hc) ?_) | refine g_cond_t rfl (by simpa using hc) ?_
      repeat (first | refine g_endt ?_ | refine g_end ?_ | refine g_then ?_ | refine g_in_normal ?_ | refine g_then_ret ?_ | refine g_in_ret ?_ | refine g_then_exit ?_ | refine g_in_exit rfl ?_ | refine g_in_exit_ne (by decide) ?_ | refine g_seq ?_ | refine g_region ?_ | refine g_block ?_ | refine g_ret ?_ | refine g_return_n ?_ | refine g_exit ?_ | refine g_skip ?_)
      refine o_move ?_
      refine o_assign ?_
      refine o_assign ?_
      first | refine g_endt ?_ | refine g_end ?_
      refine shutSI p ys S c b rfl ?_
      repeat (first | refine g_endt ?_ | refine g_end ?_ | refine g_then ?_ | refine g_in_normal ?_ | refine g_then_ret ?_ | refine g_in_ret ?_ | refine g_then_exit ?_ | refine g_in_exit rfl ?_ | refine g_in_exit_ne (by decide) ?_ | refine g_seq ?_ | refine g_region ?_ | refine g_block ?_ | refine g_ret ?_ | refine g_return_n ?_ | refine g_exit ?_ | refine g_skip ?_)
      exact ret2 rfl (resT rfl) (resT rfl) ⟨mid, true, rfl, rfl, by omega, fun _ => ⟨y, hy, hc⟩, fun e => by cases e⟩
    · first | refine g_seq (g_cond_f rfl (by simpa using hc) ?_) | refine g_cond_f rfl (by simpa using hc) ?_
      repeat (first | refine g_endt ?_ | refine g_end ?_ | refine g_then ?_ | refine g_in_normal ?_ | refine g_then_ret ?_ | refine g_in_ret ?_ | refine g_then_exit ?_ | refine g_in_exit rfl ?_ | refine g_in_exit_ne (by decide) ?_ | refine g_seq ?_ | refine g_region ?_ | refine g_block ?_ | refine g_ret ?_ | refine g_return_n ?_ | refine g_exit ?_ | refine g_skip ?_)
      refine o_move ?_
      refine o_lss rfl rfl ?_
      first | refine g_endt ?_ | refine g_end ?_
      by_cases hn : PgSI.cmp y x < 0
      · first | refine g_seq (g_cond_t rfl (by simpa using hn) ?_) | refine g_cond_t rfl (by simpa using hn) ?_
        repeat (first | refine g_endt ?_ | refine g_end ?_ | refine g_then ?_ | refine g_in_normal ?_ | refine g_then_ret ?_ | refine g_in_ret ?_ | refine g_then_exit ?_ | refine g_in_exit rfl ?_ | refine g_in_exit_ne (by decide) ?_ | refine g_seq ?_ | refine g_region ?_ | refine g_block ?_ | refine g_ret ?_ | refine g_return_n ?_ | refine g_exit ?_ | refine g_skip ?_)
        refine o_move ?_
        refine o_add (c := ((mid + 1 : Nat) : Int)) rfl rfl (by omega) (by omega) (by omega) ?_
        refine o_assign ?_
        first | refine g_endt ?_ | refine g_end ?_
        repeat (first | refine g_endt ?_ | refine g_end ?_ | refine g_then ?_ | refine g_in_normal ?_ | refine g_then_ret ?_ | refine g_in_ret ?_ | refine g_then_exit ?_ | refine g_in_exit rfl ?_ | refine g_in_exit_ne (by decide) ?_ | refine g_seq ?_ | refine g_region ?_ | refine g_block ?_ | refine g_ret ?_ | refine g_return_n ?_ | refine g_exit ?_ | refine g_skip ?_)
        refine g_meets ⟨(mid + 1, hi), by show mid + 1 ≤ hi; omega, h2, fun j y' hj hy' => ?_, h4⟩ (by show hi - (mid + 1) < hi - lo; omega) (Sat.mem ⟨rfl, rfl, rfl, rfl, trivial⟩)
        by_cases e : j = mid
        · subst e; rw [hy] at hy'; cases hy'; exact hn
        · exact PgSI.lin.trans _ _ _ (hs j mid y' y (by dsimp only at hj; omega) hy' hy) hn
      · first | refine g_seq (g_cond_f rfl (by simpa using hn) ?_) | refine g_cond_f rfl (by simpa using hn) ?_
        repeat (first | refine g_endt ?_ | refine g_end ?_ | refine g_then ?_ | refine g_in_normal ?_ | refine g_then_ret ?_ | refine g_in_ret ?_ | refine g_then_exit ?_ | refine g_in_exit rfl ?_ | refine g_in_exit_ne (by decide) ?_ | refine g_seq ?_ | refine g_region ?_ | refine g_block ?_ | refine g_ret ?_ | refine g_return_n ?_ | refine g_exit ?_ | refine g_skip ?_)
        refine o_move ?_
        refine o_assign ?_
        first | refine g_endt ?_ | refine g_end ?_
        repeat (first | refine g_endt ?_ | refine g_end ?_ | refine g_then ?_ | refine g_in_normal ?_ | refine g_then_ret ?_ | refine g_in_ret ?_ | refine g_then_exit ?_ | refine g_in_exit rfl ?_ | refine g_in_exit_ne (by decide) ?_ | refine g_seq ?_ | refine g_region ?_ | refine g_block ?_ | refine g_ret ?_ | refine g_return_n ?_ | refine g_exit ?_ | refine g_skip ?_)
        refine g_meets ⟨(lo, mid), hm1, by show mid ≤ ys.length; omega, h3, fun j y' hj hy' => ?_⟩ (by show mid - lo < hi - lo; omega) (Sat.mem ⟨rfl, rfl, rfl, rfl, trivial⟩)
        by_cases e : j = mid
        · subst e; rw [hy] at hy'; cases hy'; omega
        · have h5 := hs mid j y y' (by dsimp only at hj; omega) hy hy'
          have h6 := PgSI.lin.swap x y
          have h7 := PgSI.lin.trans x y y' (by omega) h5
          have h8 := PgSI.lin.swap x y'
          omega
  · first | refine g_seq (g_cond_f rfl (by simpa using h) ?_) | refine g_cond_f rfl (by simpa using h) ?_
    have e : lo = hi := by omega
    subst e
    repeat (first | refine g_endt ?_ | refine g_end ?_ | refine g_then ?_ | refine g_in_normal ?_ | refine g_then_ret ?_ | refine g_in_ret ?_ | refine g_then_exit ?_ | refine g_in_exit rfl ?_ | refine g_in_exit_ne (by decide) ?_ | refine g_seq ?_ | refine g_region ?_ | refine g_block ?_ | refine g_ret ?_ | refine g_return_n ?_ | refine g_exit ?_ | refine g_skip ?_)
    refine o_move ?_
    refine o_assign ?_
    refine o_assign ?_
    first | refine g_endt ?_ | refine g_end ?_
    refine shutSI p ys S c b rfl ?_
    repeat (first | refine g_endt ?_ | refine g_end ?_ | refine g_then ?_ | refine g_in_normal ?_ | refine g_then_ret ?_ | refine g_in_ret ?_ | refine g_then_exit ?_ | refine g_in_exit rfl ?_ | refine g_in_exit_ne (by decide) ?_ | refine g_seq ?_ | refine g_region ?_ | refine g_block ?_ | refine g_ret ?_ | refine g_return_n ?_ | refine g_exit ?_ | refine g_skip ?_)
    exact ret2 rfl (resT rfl) (resT rfl) ⟨lo, false, rfl, rfl, h2, fun e => (by cases e), fun _ => ⟨h3, h4⟩⟩
end Go.Proofs.Ytlognaddmbolgaa
