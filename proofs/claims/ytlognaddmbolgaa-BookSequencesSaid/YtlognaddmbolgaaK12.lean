/- The law on clones, walked. -/
import Derived.Test.YtlognaddmbolgaaK11
import Derived.Test.YtlognaddmbolgaaK5
import Derived.Test.YtlognaddmbolgaaMSI5
namespace Go.Proofs.Ytlognaddmbolgaa
open Go Go.Sl
attribute [local irreducible] Code.wpIn roundPost bodyPostM runL Ret Meets Begin

theorem WithinNat_spec (a n : Nat) (hn : 0 < n) (hn2 : n ≤ 1000000) (ha : a ≤ 1000000) : Ctr Try.prog 31 [.int .i64 (a : Int), .int .i64 (n : Int)] [] (fun v M => v = .int .i64 ((a % n : Nat) : Int) ∧ M = []) := by
  refine spec_of Try.func31 rfl Try.ntmps31 rfl fun w0 F => ?_
  repeat (first | refine g_endt ?_ | refine g_end ?_ | refine g_then ?_ | refine g_in_normal ?_ | refine g_then_ret ?_ | refine g_in_ret ?_ | refine g_then_exit ?_ | refine g_in_exit rfl ?_ | refine g_in_exit_ne (by decide) ?_ | refine g_seq ?_ | refine g_region ?_ | refine g_block ?_ | refine g_ret ?_ | refine g_return_n ?_ | refine g_exit ?_ | refine g_skip ?_)
  refine o_assign ?_
  first | refine g_endt ?_ | refine g_end ?_
  repeat (first | refine g_endt ?_ | refine g_end ?_ | refine g_then ?_ | refine g_in_normal ?_ | refine g_then_ret ?_ | refine g_in_ret ?_ | refine g_then_exit ?_ | refine g_in_exit rfl ?_ | refine g_in_exit_ne (by decide) ?_ | refine g_seq ?_ | refine g_region ?_ | refine g_block ?_ | refine g_ret ?_ | refine g_return_n ?_ | refine g_exit ?_ | refine g_skip ?_)
  refine o_move ?_
  refine o_lss rfl rfl ?_
  first | refine g_endt ?_ | refine g_end ?_
  first | refine g_seq (g_cond_f rfl (by simp; omega) ?_) | refine g_cond_f rfl (by simp; omega) ?_
  repeat (first | refine g_endt ?_ | refine g_end ?_ | refine g_then ?_ | refine g_in_normal ?_ | refine g_then_ret ?_ | refine g_in_ret ?_ | refine g_then_exit ?_ | refine g_in_exit rfl ?_ | refine g_in_exit_ne (by decide) ?_ | refine g_seq ?_ | refine g_region ?_ | refine g_block ?_ | refine g_ret ?_ | refine g_return_n ?_ | refine g_exit ?_ | refine g_skip ?_)
  refine o_move ?_
  refine o_move ?_
  refine o_rem rfl rfl (by omega) ?_
  rw [show (a : Int).tmod (n : Int) = ((a % n : Nat) : Int) by rw [Int.tmod_eq_emod_of_nonneg (by omega)]; simp]
  refine o_assign ?_
  refine g_endt ?_
  repeat (first | refine g_endt ?_ | refine g_end ?_ | refine g_then ?_ | refine g_in_normal ?_ | refine g_then_ret ?_ | refine g_in_ret ?_ | refine g_then_exit ?_ | refine g_in_exit rfl ?_ | refine g_in_exit_ne (by decide) ?_ | refine g_seq ?_ | refine g_region ?_ | refine g_block ?_ | refine g_ret ?_ | refine g_return_n ?_ | refine g_exit ?_ | refine g_skip ?_)
  refine o_move ?_
  refine o_lss rfl rfl ?_
  first | refine g_endt ?_ | refine g_end ?_
  first | refine g_seq (g_cond_f rfl (by simp; omega) ?_) | refine g_cond_f rfl (by simp; omega) ?_
  repeat (first | refine g_endt ?_ | refine g_end ?_ | refine g_then ?_ | refine g_in_normal ?_ | refine g_then_ret ?_ | refine g_in_ret ?_ | refine g_then_exit ?_ | refine g_in_exit rfl ?_ | refine g_in_exit_ne (by decide) ?_ | refine g_seq ?_ | refine g_region ?_ | refine g_block ?_ | refine g_ret ?_ | refine g_return_n ?_ | refine g_exit ?_ | refine g_skip ?_)
  refine o_move ?_
  refine o_assign ?_
  first | refine g_endt ?_ | refine g_end ?_
  repeat (first | refine g_endt ?_ | refine g_end ?_ | refine g_then ?_ | refine g_in_normal ?_ | refine g_then_ret ?_ | refine g_in_ret ?_ | refine g_then_exit ?_ | refine g_in_exit rfl ?_ | refine g_in_exit_ne (by decide) ?_ | refine g_seq ?_ | refine g_region ?_ | refine g_block ?_ | refine g_ret ?_ | refine g_return_n ?_ | refine g_exit ?_ | refine g_skip ?_)
  exact ret1 rfl (resT rfl) ⟨rfl, rfl⟩
theorem BookClones_spec (A : Option Addr) (la ca : Nat) (xs : List SymD) (hl : xs.length = la) (hm : la ≤ 9223372036854775807) (B : Option Addr) (lb cb : Nat) (zs : List SymD) (hz : zs.length = lb) (hm2 : lb ≤ 9223372036854775807) :
    Ctr Try.prog 8 [.slice A la ca, .slice B lb cb] [psl encS 3 A xs, psl encS 3 B zs] (fun v M => v = .bool true ∧ M = []) := by
  refine spec_of Try.func8 rfl Try.ntmps8 rfl fun w0 F => ?_
  repeat (first | refine g_endt ?_ | refine g_end ?_ | refine g_then ?_ | refine g_in_normal ?_ | refine g_then_ret ?_ | refine g_in_ret ?_ | refine g_then_exit ?_ | refine g_in_exit rfl ?_ | refine g_in_exit_ne (by decide) ?_ | refine g_seq ?_ | refine g_region ?_ | refine g_block ?_ | refine g_ret ?_ | refine g_return_n ?_ | refine g_exit ?_ | refine g_skip ?_)
  refine o_assign ?_
  first | refine g_endt ?_ | refine g_end ?_
  repeat (first | refine g_endt ?_ | refine g_end ?_ | refine g_then ?_ | refine g_in_normal ?_ | refine g_then_ret ?_ | refine g_in_ret ?_ | refine g_then_exit ?_ | refine g_in_exit rfl ?_ | refine g_in_exit_ne (by decide) ?_ | refine g_seq ?_ | refine g_region ?_ | refine g_block ?_ | refine g_ret ?_ | refine g_return_n ?_ | refine g_exit ?_ | refine g_skip ?_)
  refine o_move ?_
  refine o_len rfl rfl ?_
  refine o_gtr rfl rfl ?_
  by_cases h1 : 60 < la
  · rw [show decide ((la : Int) > 60) = true from decide_eq_true (by omega)]
    refine o_move ?_
    refine o_unwanted rfl rfl rfl rfl rfl ?_
    refine o_unwanted rfl rfl rfl rfl rfl ?_
    refine o_unwanted rfl rfl rfl rfl rfl ?_
    refine o_pick_t rfl rfl ?_
    refine g_endt ?_
    first | refine g_seq (g_cond_t rfl (rfl) ?_) | refine g_cond_t rfl (rfl) ?_
    repeat (first | refine g_endt ?_ | refine g_end ?_ | refine g_then ?_ | refine g_in_normal ?_ | refine g_then_ret ?_ | refine g_in_ret ?_ | refine g_then_exit ?_ | refine g_in_exit rfl ?_ | refine g_in_exit_ne (by decide) ?_ | refine g_seq ?_ | refine g_region ?_ | refine g_block ?_ | refine g_ret ?_ | refine g_return_n ?_ | refine g_exit ?_ | refine g_skip ?_)
    refine o_call wakes02_spec rfl rfl ?_
    rintro _ _ ⟨rfl, rfl⟩
    refine o_assign ?_
    refine g_endt ?_
    repeat (first | refine g_endt ?_ | refine g_end ?_ | refine g_then ?_ | refine g_in_normal ?_ | refine g_then_ret ?_ | refine g_in_ret ?_ | refine g_then_exit ?_ | refine g_in_exit rfl ?_ | refine g_in_exit_ne (by decide) ?_ | refine g_seq ?_ | refine g_region ?_ | refine g_block ?_ | refine g_ret ?_ | refine g_return_n ?_ | refine g_exit ?_ | refine g_skip ?_)
    exact ret1 (K := []) rfl (resT rfl) ⟨rfl, rfl⟩
  rw [show decide ((la : Int) > 60) = false from decide_eq_false (by omega)]
  refine o_move ?_
  refine o_want rfl rfl rfl rfl rfl (o_move ?_)
  refine o_want rfl rfl rfl rfl rfl (o_len rfl rfl ?_)
  refine o_want rfl rfl rfl rfl rfl (o_gtr rfl rfl ?_)
  refine o_pick_f rfl rfl ?_
  refine g_endt ?_
  by_cases h2 : 60 < lb
  · first | refine g_seq (g_cond_t rfl (by simp; omega) ?_) | refine g_cond_t rfl (by simp; omega) ?_
    repeat (first | refine g_endt ?_ | refine g_end ?_ | refine g_then ?_ | refine g_in_normal ?_ | refine g_then_ret ?_ | refine g_in_ret ?_ | refine g_then_exit ?_ | refine g_in_exit rfl ?_ | refine g_in_exit_ne (by decide) ?_ | refine g_seq ?_ | refine g_region ?_ | refine g_block ?_ | refine g_ret ?_ | refine g_return_n ?_ | refine g_exit ?_ | refine g_skip ?_)
    refine o_call wakes02_spec rfl rfl ?_
    rintro _ _ ⟨rfl, rfl⟩
    refine o_assign ?_
    refine g_endt ?_
    repeat (first | refine g_endt ?_ | refine g_end ?_ | refine g_then ?_ | refine g_in_normal ?_ | refine g_then_ret ?_ | refine g_in_ret ?_ | refine g_then_exit ?_ | refine g_in_exit rfl ?_ | refine g_in_exit_ne (by decide) ?_ | refine g_seq ?_ | refine g_region ?_ | refine g_block ?_ | refine g_ret ?_ | refine g_return_n ?_ | refine g_exit ?_ | refine g_skip ?_)
    exact ret1 (K := []) rfl (resT rfl) ⟨rfl, rfl⟩
  first | refine g_seq (g_cond_f rfl (by simp; omega) ?_) | refine g_cond_f rfl (by simp; omega) ?_
  repeat (first | refine g_endt ?_ | refine g_end ?_ | refine g_then ?_ | refine g_in_normal ?_ | refine g_then_ret ?_ | refine g_in_ret ?_ | refine g_then_exit ?_ | refine g_in_exit rfl ?_ | refine g_in_exit_ne (by decide) ?_ | refine g_seq ?_ | refine g_region ?_ | refine g_block ?_ | refine g_ret ?_ | refine g_return_n ?_ | refine g_exit ?_ | refine g_skip ?_)
  refine o_move ?_
  refine o_callp (filled_spec A la ca xs hl (by omega)) rfl rfl ?_
  rintro _ _ ⟨m, p, ys, rfl, rfl, hs, hyl⟩
  refine o_move ?_
  refine o_extract rfl rfl ?_
  refine o_extract rfl rfl ?_
  refine o_assign ?_
  refine o_assign ?_
  refine g_endt ?_
  repeat (first | refine g_endt ?_ | refine g_end ?_ | refine g_then ?_ | refine g_in_normal ?_ | refine g_then_ret ?_ | refine g_in_ret ?_ | refine g_then_exit ?_ | refine g_in_exit rfl ?_ | refine g_in_exit_ne (by decide) ?_ | refine g_seq ?_ | refine g_region ?_ | refine g_block ?_ | refine g_ret ?_ | refine g_return_n ?_ | refine g_exit ?_ | refine g_skip ?_)
  refine o_move ?_
  refine o_peql rfl ?_
  refine g_endt ?_
  first | refine g_seq (g_cond_f rfl (rfl) ?_) | refine g_cond_f rfl (rfl) ?_
  repeat (first | refine g_endt ?_ | refine g_end ?_ | refine g_then ?_ | refine g_in_normal ?_ | refine g_then_ret ?_ | refine g_in_ret ?_ | refine g_then_exit ?_ | refine g_in_exit rfl ?_ | refine g_in_exit_ne (by decide) ?_ | refine g_seq ?_ | refine g_region ?_ | refine g_block ?_ | refine g_ret ?_ | refine g_return_n ?_ | refine g_exit ?_ | refine g_skip ?_)
  refine o_move ?_
  refine o_call (CloneMSI_spec m ys) rfl rfl ?_
  rintro _ _ ⟨c, rfl, rfl⟩
  refine o_assign ?_
  refine g_endt ?_
  repeat (first | refine g_endt ?_ | refine g_end ?_ | refine g_then ?_ | refine g_in_normal ?_ | refine g_then_ret ?_ | refine g_in_ret ?_ | refine g_then_exit ?_ | refine g_in_exit rfl ?_ | refine g_in_exit_ne (by decide) ?_ | refine g_seq ?_ | refine g_region ?_ | refine g_block ?_ | refine g_ret ?_ | refine g_return_n ?_ | refine g_exit ?_ | refine g_skip ?_)
  refine o_move ?_
  refine o_peql rfl ?_
  refine g_endt ?_
  first | refine g_seq (g_cond_f rfl (rfl) ?_) | refine g_cond_f rfl (rfl) ?_
  repeat (first | refine g_endt ?_ | refine g_end ?_ | refine g_then ?_ | refine g_in_normal ?_ | refine g_then_ret ?_ | refine g_in_ret ?_ | refine g_then_exit ?_ | refine g_in_exit rfl ?_ | refine g_in_exit_ne (by decide) ?_ | refine g_seq ?_ | refine g_region ?_ | refine g_block ?_ | refine g_ret ?_ | refine g_return_n ?_ | refine g_exit ?_ | refine g_skip ?_)
  refine o_assign ?_
  refine g_endt ?_
  repeat (first | refine g_endt ?_ | refine g_end ?_ | refine g_then ?_ | refine g_in_normal ?_ | refine g_then_ret ?_ | refine g_in_ret ?_ | refine g_then_exit ?_ | refine g_in_exit rfl ?_ | refine g_in_exit_ne (by decide) ?_ | refine g_seq ?_ | refine g_region ?_ | refine g_block ?_ | refine g_ret ?_ | refine g_return_n ?_ | refine g_exit ?_ | refine g_skip ?_)
  refine g_loop (σ := {t : Nat × List PgSI // t.1 ≤ lb ∧ Srt PgSI.cmp t.2 ∧ t.2.length ≤ 60 + t.1}) (S := fun t => [(1, .slice B lb cb), (5, .pointer (some ⟨m, 0, none⟩)), (6, .pointer (some ⟨p, 0, none⟩)), (7, .pointer (some ⟨c, 0, none⟩)), (8, .int .i64 (t.1.1 : Int))])
    (H := fun t => [MapASI m t.1.2, MapASI c ys, PlA p ys, psl encS 3 B zs]) (μ := fun t => lb - t.1.1) (s0 := ⟨(0, ys), Nat.zero_le _, hs, by show ys.length ≤ 60 + 0; omega⟩) (Sat.mem ⟨rfl, rfl, rfl, rfl, rfl, trivial⟩) ?_
  rintro ⟨⟨i, ks⟩, hi, hks, hkl⟩ ρ'
  dsimp only at hi hks hkl ⊢
  repeat (first | refine g_endt ?_ | refine g_end ?_ | refine g_then ?_ | refine g_in_normal ?_ | refine g_then_ret ?_ | refine g_in_ret ?_ | refine g_then_exit ?_ | refine g_in_exit rfl ?_ | refine g_in_exit_ne (by decide) ?_ | refine g_seq ?_ | refine g_region ?_ | refine g_block ?_ | refine g_ret ?_ | refine g_return_n ?_ | refine g_exit ?_ | refine g_skip ?_)
  refine o_move ?_
  refine o_move ?_
  refine o_len rfl rfl ?_
  refine o_lss rfl rfl ?_
  first | refine g_endt ?_ | refine g_end ?_
  by_cases h : i < lb
  · first | refine g_seq (g_cond_t rfl (by simpa using h) ?_) | refine g_cond_t rfl (by simpa using h) ?_
    have hi' : i < zs.length := by omega
    obtain ⟨x, hx⟩ : ∃ x, zs[i]? = some x := ⟨_, List.getElem?_eq_getElem hi'⟩
    have hm' : (i * 5) % lb < zs.length := by rw [hz]; exact Nat.mod_lt _ (by omega)
    obtain ⟨u, hu⟩ : ∃ u, zs[(i * 5) % lb]? = some u := ⟨_, List.getElem?_eq_getElem hm'⟩
    repeat (first | refine g_endt ?_ | refine g_end ?_ | refine g_then ?_ | refine g_in_normal ?_ | refine g_then_ret ?_ | refine g_in_ret ?_ | refine g_then_exit ?_ | refine g_in_exit rfl ?_ | refine g_in_exit_ne (by decide) ?_ | refine g_seq ?_ | refine g_region ?_ | refine g_block ?_ | refine g_ret ?_ | refine g_return_n ?_ | refine g_exit ?_ | refine g_skip ?_)
    refine o_move ?_
    refine o_move ?_
    refine o_move ?_
    refine o_indexR (ys := zs) (i := i) rfl rfl rfl hi' hz rfl ?_
    refine o_loadE (ys := zs) rfl rfl hx ?_
    refine o_move ?_
    refine o_add (c := (1000 : Int) + (i : Int)) rfl rfl rfl (by omega) (by omega) ?_
    refine o_call (PutMSI_spec m ks x ((1000 : Int) + (i : Int)) hks (by omega)) rfl rfl ?_
    rintro _ _ ⟨k, there, rfl, rfl, hk⟩
    obtain ⟨hs2, hl2⟩ := put_srt hks hk
    generalize putLSI ks x ((1000 : Int) + (i : Int)) k there = ks2 at hs2 hl2 ⊢
    first | refine g_endt ?_ | refine g_end ?_
    repeat (first | refine g_endt ?_ | refine g_end ?_ | refine g_then ?_ | refine g_in_normal ?_ | refine g_then_ret ?_ | refine g_in_ret ?_ | refine g_then_exit ?_ | refine g_in_exit rfl ?_ | refine g_in_exit_ne (by decide) ?_ | refine g_seq ?_ | refine g_region ?_ | refine g_block ?_ | refine g_ret ?_ | refine g_return_n ?_ | refine g_exit ?_ | refine g_skip ?_)
    refine o_move ?_
    refine o_move ?_
    refine o_move ?_
    refine o_mulw rfl rfl ?_
    rw [show IntKind.i64.wrap ((i : Int) * 5) = ((i * 5 : Nat) : Int) by rw [IntWalk.i64_in _ ⟨by omega, by omega⟩]; omega]
    refine o_move ?_
    refine o_len rfl rfl ?_
    refine o_call (WithinNat_spec (i * 5) lb (by omega) (by omega) (by omega)) rfl rfl ?_
    rintro _ _ ⟨rfl, rfl⟩
    refine o_indexR (ys := zs) (i := (i * 5) % lb) rfl rfl rfl hm' hz rfl ?_
    refine o_loadE (ys := zs) rfl rfl hu ?_
    refine o_call (DropMSI_spec m ks2 u hs2 (by omega)) rfl rfl ?_
    rintro _ _ ⟨k2, there2, rfl, rfl, hk2⟩
    have hs3 : Srt PgSI.cmp (cond there2 (ks2.eraseIdx k2) ks2) ∧ (cond there2 (ks2.eraseIdx k2) ks2).length ≤ ks2.length := by
      cases there2
      · exact ⟨hs2, Nat.le_refl _⟩
      · exact ⟨Srt.erase hs2 k2, List.length_eraseIdx_le _ _⟩
    generalize cond there2 (ks2.eraseIdx k2) ks2 = ks3 at hs3 ⊢
    first | refine g_endt ?_ | refine g_end ?_
    repeat (first | refine g_endt ?_ | refine g_end ?_ | refine g_then ?_ | refine g_in_normal ?_ | refine g_then_ret ?_ | refine g_in_ret ?_ | refine g_then_exit ?_ | refine g_in_exit rfl ?_ | refine g_in_exit_ne (by decide) ?_ | refine g_seq ?_ | refine g_region ?_ | refine g_block ?_ | refine g_ret ?_ | refine g_return_n ?_ | refine g_exit ?_ | refine g_skip ?_)
    refine o_move ?_
    refine o_add (c := ((i + 1 : Nat) : Int)) rfl rfl (by omega) (by omega) (by omega) ?_
    refine o_assign ?_
    first | refine g_endt ?_ | refine g_end ?_
    repeat (first | refine g_endt ?_ | refine g_end ?_ | refine g_then ?_ | refine g_in_normal ?_ | refine g_then_ret ?_ | refine g_in_ret ?_ | refine g_then_exit ?_ | refine g_in_exit rfl ?_ | refine g_in_exit_ne (by decide) ?_ | refine g_seq ?_ | refine g_region ?_ | refine g_block ?_ | refine g_ret ?_ | refine g_return_n ?_ | refine g_exit ?_ | refine g_skip ?_)
    exact g_meets ⟨(i + 1, ks3), h, hs3.1, by show ks3.length ≤ 60 + (i + 1); have := hs3.2; omega⟩ (by show lb - (i + 1) < lb - i; omega) (Sat.mem ⟨rfl, rfl, rfl, rfl, rfl, trivial⟩)
  · first | refine g_seq (g_cond_f rfl (by simpa using h) ?_) | refine g_cond_f rfl (by simpa using h) ?_
    repeat (first | refine g_endt ?_ | refine g_end ?_ | refine g_then ?_ | refine g_in_normal ?_ | refine g_then_ret ?_ | refine g_in_ret ?_ | refine g_then_exit ?_ | refine g_in_exit rfl ?_ | refine g_in_exit_ne (by decide) ?_ | refine g_seq ?_ | refine g_region ?_ | refine g_block ?_ | refine g_ret ?_ | refine g_return_n ?_ | refine g_exit ?_ | refine g_skip ?_)
    refine o_move ?_
    refine o_build (SymD.val ⟨0, ByteArray.empty, 0⟩) (fun w => by kernel_rfl) ?_
    refine o_call (pairsAll_spec c 1000 ys ⟨0, ByteArray.empty, 0⟩ (by omega) (by omega)) rfl rfl ?_
    rintro _ _ ⟨S, c1, T, d1, rfl, rfl⟩
    refine o_move ?_
    refine o_extract rfl rfl ?_
    refine o_extract rfl rfl ?_
    refine o_assign ?_
    refine o_assign ?_
    refine g_endt ?_
    refine G.bring [osl 27 encS 3 S c1 (ys.map PgSI.k)] ?_
    refine G.frz ?_
    refine G.bring [osl 3 encI 1 T d1 (ys.map PgSI.v)] ?_
    refine G.frz ?_
    refine openPl p ys fun K ck V cv hc => ?_
    refine G.bring [osl 3 encI 1 V cv (ys.map PgSI.v)] ?_
    refine G.frz ?_
    have hkl2 : (ys.map PgSI.k).length = ys.length := List.length_map _
    have hvl2 : (ys.map PgSI.v).length = ys.length := List.length_map _
    repeat (first | refine g_endt ?_ | refine g_end ?_ | refine g_then ?_ | refine g_in_normal ?_ | refine g_then_ret ?_ | refine g_in_ret ?_ | refine g_then_exit ?_ | refine g_in_exit rfl ?_ | refine g_in_exit_ne (by decide) ?_ | refine g_seq ?_ | refine g_region ?_ | refine g_block ?_ | refine g_ret ?_ | refine g_return_n ?_ | refine g_exit ?_ | refine g_skip ?_)
    refine o_move ?_
    refine o_move ?_
    refine o_nil rfl ?_
    refine o_field rfl ?_
    refine o_load1 (v := .slice K ys.length ck) rfl rfl ?_
    refine o_callp (Syms_spec S K ys.length c1 ck (ys.map PgSI.k) hkl2 (by omega)) rfl rfl ?_
    rintro _ _ ⟨rfl, rfl⟩
    refine o_move ?_
    refine o_want rfl rfl rfl rfl rfl (o_move ?_)
    refine o_want rfl rfl rfl rfl rfl (o_move ?_)
    refine o_want rfl rfl rfl rfl rfl (o_nil rfl ?_)
    refine o_want rfl rfl rfl rfl rfl (o_field rfl ?_)
    refine o_want rfl rfl rfl rfl rfl (o_load1 (v := .slice V ys.length cv) rfl rfl ?_)
    refine o_want rfl rfl rfl rfl rfl (o_callp (Ints_spec T V ys.length d1 cv (ys.map PgSI.v) hvl2 (by omega)) rfl rfl ?_)
    rintro _ _ ⟨rfl, rfl⟩
    refine o_pick_t rfl rfl ?_
    refine o_move ?_
    refine o_want rfl rfl rfl rfl rfl (o_call wakes02_spec rfl rfl ?_)
    rintro _ _ ⟨rfl, rfl⟩
    refine o_pick_t rfl rfl ?_
    refine o_assign ?_
    refine g_endt ?_
    repeat (first | refine g_endt ?_ | refine g_end ?_ | refine g_then ?_ | refine g_in_normal ?_ | refine g_then_ret ?_ | refine g_in_ret ?_ | refine g_then_exit ?_ | refine g_in_exit rfl ?_ | refine g_in_exit_ne (by decide) ?_ | refine g_seq ?_ | refine g_region ?_ | refine g_block ?_ | refine g_ret ?_ | refine g_return_n ?_ | refine g_exit ?_ | refine g_skip ?_)
    exact ret1 (K := []) rfl (resT rfl) ⟨rfl, rfl⟩
end Go.Proofs.Ytlognaddmbolgaa
