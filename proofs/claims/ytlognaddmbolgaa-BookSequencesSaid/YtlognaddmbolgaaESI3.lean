/- An ordered set's functions, for one type of members: Put. -/
import Derived.Test.YtlognaddmbolgaaESI2
namespace Go.Proofs.Ytlognaddmbolgaa
open Go Go.Sl
attribute [local irreducible] Code.wpIn roundPost bodyPostM runL Ret Meets Begin

theorem take_snocPSI {α : Type} (ys : List α) (i : Nat) (y : α) (h : ys[i]? = some y) : ys.take (i + 1) = ys.take i ++ [y] := by rw [List.take_add_one, h]; rfl
theorem gapSI (ys : List PgSI) (i : Nat) (w y : PgSI) (hi : i < ys.length) (hy : ys[i]? = some y) : (ys.take (i + 1) ++ w :: ys.drop (i + 1)).set (i + 1) y = ys.take i ++ y :: ys.drop i := by
  have h1 : (ys.take (i + 1)).length = i + 1 := by simp; omega
  have h2 : ys.drop i = y :: ys.drop (i + 1) := by
    rw [List.drop_eq_getElem_cons hi]
    rw [List.getElem?_eq_getElem hi] at hy
    cases hy
    rfl
  rw [List.set_append_right _ _ (by omega), h1, Nat.sub_self, List.set_cons_zero, take_snocPSI ys i y hy, h2]
  simp
theorem PutSI_spec (p : Nat) (ys : List PgSI) (x : PgSI) (hs : Srt PgSI.cmp ys) (hl : ys.length < 1000000000) : Ctr Try.prog 57 [.pointer (some ⟨p, 0, none⟩), x.val] [SetASI p ys]
    (fun v M => ∃ (k : Nat) (there : Bool), v = .bool !there ∧ M = [SetASI p (cond there ys (ys.take k ++ x :: ys.drop k))] ∧ FindR PgSI.cmp ys x k there) := by
  refine spec_of Try.func57 rfl Try.ntmps57 rfl fun w0 F => ?_
  repeat (first | refine g_endt ?_ | refine g_end ?_ | refine g_then ?_ | refine g_in_normal ?_ | refine g_then_ret ?_ | refine g_in_ret ?_ | refine g_then_exit ?_ | refine g_in_exit rfl ?_ | refine g_in_exit_ne (by decide) ?_ | refine g_seq ?_ | refine g_region ?_ | refine g_block ?_ | refine g_ret ?_ | refine g_return_n ?_ | refine g_exit ?_ | refine g_skip ?_)
  refine o_boxc x.val.cells rfl rfl fun q => ?_
  refine o_assign ?_
  first | refine g_endt ?_ | refine g_end ?_
  repeat (first | refine g_endt ?_ | refine g_end ?_ | refine g_then ?_ | refine g_in_normal ?_ | refine g_then_ret ?_ | refine g_in_ret ?_ | refine g_then_exit ?_ | refine g_in_exit rfl ?_ | refine g_in_exit_ne (by decide) ?_ | refine g_seq ?_ | refine g_region ?_ | refine g_block ?_ | refine g_ret ?_ | refine g_return_n ?_ | refine g_exit ?_ | refine g_skip ?_)
  refine o_move ?_
  refine o_peql rfl ?_
  first | refine g_endt ?_ | refine g_end ?_
  first | refine g_seq (g_cond_f rfl (rfl) ?_) | refine g_cond_f rfl (rfl) ?_
  repeat (first | refine g_endt ?_ | refine g_end ?_ | refine g_then ?_ | refine g_in_normal ?_ | refine g_then_ret ?_ | refine g_in_ret ?_ | refine g_then_exit ?_ | refine g_in_exit rfl ?_ | refine g_in_exit_ne (by decide) ?_ | refine g_seq ?_ | refine g_region ?_ | refine g_block ?_ | refine g_ret ?_ | refine g_return_n ?_ | refine g_exit ?_ | refine g_skip ?_)
  refine o_move ?_
  refine o_loadN (v := x.val) rfl rfl rfl ?_
  refine o_call (findSI_spec p ys x hs (by omega)) rfl rfl ?_
  rintro _ _ ⟨k, there, rfl, rfl, hk⟩
  refine o_move ?_
  refine o_extract rfl rfl ?_
  refine o_extract rfl rfl ?_
  refine o_assign ?_
  refine o_assign ?_
  first | refine g_endt ?_ | refine g_end ?_
  repeat (first | refine g_endt ?_ | refine g_end ?_ | refine g_then ?_ | refine g_in_normal ?_ | refine g_then_ret ?_ | refine g_in_ret ?_ | refine g_then_exit ?_ | refine g_in_exit rfl ?_ | refine g_in_exit_ne (by decide) ?_ | refine g_seq ?_ | refine g_region ?_ | refine g_block ?_ | refine g_ret ?_ | refine g_return_n ?_ | refine g_exit ?_ | refine g_skip ?_)
  refine o_move ?_
  refine g_endt ?_
  cases there
  case true =>
    first | refine g_seq (g_cond_t rfl (rfl) ?_) | refine g_cond_t rfl (rfl) ?_
    repeat (first | refine g_endt ?_ | refine g_end ?_ | refine g_then ?_ | refine g_in_normal ?_ | refine g_then_ret ?_ | refine g_in_ret ?_ | refine g_then_exit ?_ | refine g_in_exit rfl ?_ | refine g_in_exit_ne (by decide) ?_ | refine g_seq ?_ | refine g_region ?_ | refine g_block ?_ | refine g_ret ?_ | refine g_return_n ?_ | refine g_exit ?_ | refine g_skip ?_)
    refine o_assign ?_
    first | refine g_endt ?_ | refine g_end ?_
    repeat (first | refine g_endt ?_ | refine g_end ?_ | refine g_then ?_ | refine g_in_normal ?_ | refine g_then_ret ?_ | refine g_in_ret ?_ | refine g_then_exit ?_ | refine g_in_exit rfl ?_ | refine g_in_exit_ne (by decide) ?_ | refine g_seq ?_ | refine g_region ?_ | refine g_block ?_ | refine g_ret ?_ | refine g_return_n ?_ | refine g_exit ?_ | refine g_skip ?_)
    exact ret1 (K := [SetASI p ys]) rfl (resT rfl) ⟨k, true, rfl, rfl, hk⟩
  first | refine g_seq (g_cond_f rfl (rfl) ?_) | refine g_cond_f rfl (rfl) ?_
  repeat (first | refine g_endt ?_ | refine g_end ?_ | refine g_then ?_ | refine g_in_normal ?_ | refine g_then_ret ?_ | refine g_in_ret ?_ | refine g_then_exit ?_ | refine g_in_exit rfl ?_ | refine g_in_exit_ne (by decide) ?_ | refine g_seq ?_ | refine g_region ?_ | refine g_block ?_ | refine g_ret ?_ | refine g_return_n ?_ | refine g_exit ?_ | refine g_skip ?_)
  refine o_move ?_
  refine o_call (ownSI_spec p ys (by omega)) rfl rfl ?_
  rintro _ _ ⟨S, c, rfl⟩
  refine g_endt ?_
  repeat (first | refine g_endt ?_ | refine g_end ?_ | refine g_then ?_ | refine g_in_normal ?_ | refine g_then_ret ?_ | refine g_in_ret ?_ | refine g_then_exit ?_ | refine g_in_exit rfl ?_ | refine g_in_exit_ne (by decide) ?_ | refine g_seq ?_ | refine g_region ?_ | refine g_block ?_ | refine g_ret ?_ | refine g_return_n ?_ | refine g_exit ?_ | refine g_skip ?_)
  refine g_draw [6, 7, 10] [0,1,2,3,4,5,6,7,8,9,10] [cellsB p #[.slice S ys.length c, .bool false] 145, cellsB q x.val.cells 110] mixed rfl ?_
  refine ob_q rfl rfl ⟨_, fun X Q h => o_move (g_end (h _ _ ⟨rfl, rfl⟩)), ?_⟩
  refine ob_q rfl rfl ⟨_, fun X Q h => o_move (g_end (h _ _ ⟨rfl, rfl⟩)), ?_⟩
  refine ob_q rfl rfl ⟨_, fun X Q h => o_nil rfl (g_end (h _ _ ⟨rfl, rfl⟩)), ?_⟩
  refine ob_q rfl rfl ⟨_, fun X Q h => o_field rfl (g_end (h _ _ ⟨rfl, rfl⟩)), ?_⟩
  refine ob_q rfl rfl ⟨_, fun X Q h => o_load1 (v := .slice S ys.length c) rfl rfl (g_end (h _ _ ⟨rfl, rfl⟩)), ?_⟩
  refine ob_q rfl rfl ⟨_, fun X Q h => o_loadN (v := x.val) rfl rfl rfl (g_end (h _ _ ⟨rfl, rfl⟩)), ?_⟩
  refine ob_l rfl rfl fun Qz hz => o_slice_lit (e := 110) x.val.cells (fun w => by kernel_rfl) fun g => G.lit_slice (enc := PgSI.enc) (sz := 4) [x] (by simp [PgSI.enc]) (by simp [maxLen]) <| G.freeze_slice <| g_end (hz _ _ ⟨_, ob_fin, ?_⟩)
  clear hz Qz
  refine ob_l rfl rfl fun Qz hz => o_append (xs := ys) (ys := [x]) rfl rfl rfl rfl rfl (fun _ => .inr trivial) (by simp [maxLen]; omega) (by simp; omega) fun U d => g_end (hz _ _ ⟨_, ob_fin, ?_⟩)
  clear hz Qz
  refine ob_q rfl rfl ⟨_, fun X Q h => o_nil rfl (g_end (h _ _ ⟨rfl, rfl⟩)), ?_⟩
  refine ob_q rfl rfl ⟨_, fun X Q h => o_field rfl (g_end (h _ _ ⟨rfl, rfl⟩)), ?_⟩
  refine ob_s ([]) rfl rfl rfl fun Qz hz => o_store (v := .slice U (ys.length + 1) d) rfl rfl rfl rfl rfl <| g_end (hz _ _ ⟨_, ob_fin, ?_⟩)
  clear hz Qz
  refine ob_nil ?_
  refine G.norm p #[.slice U (ys.length + 1) d, .bool false] rfl ?_
  repeat (first | refine g_endt ?_ | refine g_end ?_ | refine g_then ?_ | refine g_in_normal ?_ | refine g_then_ret ?_ | refine g_in_ret ?_ | refine g_then_exit ?_ | refine g_in_exit rfl ?_ | refine g_in_exit_ne (by decide) ?_ | refine g_seq ?_ | refine g_region ?_ | refine g_block ?_ | refine g_ret ?_ | refine g_return_n ?_ | refine g_exit ?_ | refine g_skip ?_)
  refine o_move ?_
  refine o_nil rfl ?_
  refine o_field rfl ?_
  refine o_load1 (v := .slice U (ys.length + 1) d) rfl rfl ?_
  refine o_len rfl rfl ?_
  refine o_sub (c := ((ys.length : Nat) : Int)) rfl rfl (by omega) (by omega) (by omega) ?_
  refine o_assign ?_
  refine g_endt ?_
  repeat (first | refine g_endt ?_ | refine g_end ?_ | refine g_then ?_ | refine g_in_normal ?_ | refine g_then_ret ?_ | refine g_in_ret ?_ | refine g_then_exit ?_ | refine g_in_exit rfl ?_ | refine g_in_exit_ne (by decide) ?_ | refine g_seq ?_ | refine g_region ?_ | refine g_block ?_ | refine g_ret ?_ | refine g_return_n ?_ | refine g_exit ?_ | refine g_skip ?_)
  have hk1 : k ≤ ys.length := hk.1
  refine g_loop (σ := {s : Nat × PgSI // k ≤ s.1 ∧ s.1 ≤ ys.length})
    (S := fun s => [(0, .pointer (some ⟨p, 0, none⟩)), (3, .pointer (some ⟨q, 0, none⟩)), (5, .int .i64 (k : Int)), (7, .int .i64 (s.1.1 : Int))])
    (H := fun s => [cellsB p #[.slice U (ys.length + 1) d, .bool false] 145, cellsB q x.val.cells 110, osl 110 PgSI.enc 4 U d (ys.take s.1.1 ++ s.1.2 :: ys.drop s.1.1)]) (μ := fun s => s.1.1)
    (s0 := ⟨(ys.length, x), hk1, Nat.le_refl _⟩) (Sat.mem ⟨rfl, rfl, rfl, rfl, trivial⟩) (t := by simp only [List.take_length, List.drop_length]; infer_instance) ?_
  rintro ⟨⟨i, w⟩, h1, h2⟩ ρ'
  dsimp only at h1 h2 ⊢
  have hlen : (ys.take i ++ w :: ys.drop i).length = ys.length + 1 := by simp; omega
  repeat (first | refine g_endt ?_ | refine g_end ?_ | refine g_then ?_ | refine g_in_normal ?_ | refine g_then_ret ?_ | refine g_in_ret ?_ | refine g_then_exit ?_ | refine g_in_exit rfl ?_ | refine g_in_exit_ne (by decide) ?_ | refine g_seq ?_ | refine g_region ?_ | refine g_block ?_ | refine g_ret ?_ | refine g_return_n ?_ | refine g_exit ?_ | refine g_skip ?_)
  refine o_move ?_
  refine o_move ?_
  refine o_gtr rfl rfl ?_
  first | refine g_endt ?_ | refine g_end ?_
  by_cases h : k < i
  · first | refine g_seq (g_cond_t rfl (by simpa using h) ?_) | refine g_cond_t rfl (by simpa using h) ?_
    repeat (first | refine g_endt ?_ | refine g_end ?_ | refine g_then ?_ | refine g_in_normal ?_ | refine g_then_ret ?_ | refine g_in_ret ?_ | refine g_then_exit ?_ | refine g_in_exit rfl ?_ | refine g_in_exit_ne (by decide) ?_ | refine g_seq ?_ | refine g_region ?_ | refine g_block ?_ | refine g_ret ?_ | refine g_return_n ?_ | refine g_exit ?_ | refine g_skip ?_)
    obtain ⟨i, rfl⟩ : ∃ j, i = j + 1 := ⟨i - 1, by omega⟩
    have hi : i < ys.length := by omega
    obtain ⟨y, hy⟩ : ∃ y, ys[i]? = some y := ⟨_, List.getElem?_eq_getElem hi⟩
    have hz : (ys.take (i + 1) ++ w :: ys.drop (i + 1))[i]? = some y := by
      rw [List.getElem?_append_left (by simp; omega), List.getElem?_take, if_pos (by omega), hy]
    refine g_draw [14] [0,1,2,3,4,5,6,7,8,9,10,11,12,13,14] [cellsB p #[.slice U (ys.length + 1) d, .bool false] 145, osl 110 PgSI.enc 4 U d (ys.take (i + 1) ++ w :: ys.drop (i + 1))] mixed rfl ?_
    refine ob_q rfl rfl ⟨_, fun X Q h => o_move (g_end (h _ _ ⟨rfl, rfl⟩)), ?_⟩
    refine ob_q rfl rfl ⟨_, fun X Q h => o_nil rfl (g_end (h _ _ ⟨rfl, rfl⟩)), ?_⟩
    refine ob_q rfl rfl ⟨_, fun X Q h => o_field rfl (g_end (h _ _ ⟨rfl, rfl⟩)), ?_⟩
    refine ob_q rfl rfl ⟨_, fun X Q h => o_load1 (v := .slice U (ys.length + 1) d) rfl rfl (g_end (h _ _ ⟨rfl, rfl⟩)), ?_⟩
    refine ob_q rfl rfl ⟨_, fun X Q h => o_move (g_end (h _ _ ⟨rfl, rfl⟩)), ?_⟩
    refine ob_q rfl rfl ⟨_, fun X Q h => o_move (g_end (h _ _ ⟨rfl, rfl⟩)), ?_⟩
    refine ob_q rfl rfl ⟨_, fun X Q h => o_nil rfl (g_end (h _ _ ⟨rfl, rfl⟩)), ?_⟩
    refine ob_q rfl rfl ⟨_, fun X Q h => o_field rfl (g_end (h _ _ ⟨rfl, rfl⟩)), ?_⟩
    refine ob_q rfl rfl ⟨_, fun X Q h => o_load1 (v := .slice U (ys.length + 1) d) rfl rfl (g_end (h _ _ ⟨rfl, rfl⟩)), ?_⟩
    refine ob_q rfl rfl ⟨_, fun X Q h => o_move (g_end (h _ _ ⟨rfl, rfl⟩)), ?_⟩
    refine ob_q rfl rfl ⟨_, fun X Q h => o_sub (c := ((i : Nat) : Int)) rfl rfl (by omega) (by omega) (by omega) (g_end (h _ _ ⟨rfl, rfl⟩)), ?_⟩
    refine ob_q rfl rfl ⟨_, fun X Q h => o_indexR (i := i) rfl rfl rfl (by omega) hlen rfl (g_end (h _ _ ⟨rfl, rfl⟩)), ?_⟩
    refine ob_q rfl rfl ⟨_, fun X Q h => o_loadE (enc := PgSI.enc) rfl rfl hz (g_end (h _ _ ⟨rfl, rfl⟩)), ?_⟩
    refine ob_q rfl rfl ⟨_, fun X Q h => o_indexR (i := i + 1) rfl rfl rfl (by omega) hlen rfl (g_end (h _ _ ⟨rfl, rfl⟩)), ?_⟩
    refine ob_s ([]) rfl rfl rfl fun Qz hz => o_storeE (e := 110) (c := d) (v := y.val) (z := y) (i := i + 1) (enc := PgSI.enc) (xs := ys.take (i + 1) ++ w :: ys.drop (i + 1)) rfl rfl rfl rfl (by omega) <| g_end (hz _ _ ⟨_, ob_fin, ?_⟩)
    clear hz Qz
    refine ob_nil ?_
    rw [gapSI ys i w y hi hy]
    repeat (first | refine g_endt ?_ | refine g_end ?_ | refine g_then ?_ | refine g_in_normal ?_ | refine g_then_ret ?_ | refine g_in_ret ?_ | refine g_then_exit ?_ | refine g_in_exit rfl ?_ | refine g_in_exit_ne (by decide) ?_ | refine g_seq ?_ | refine g_region ?_ | refine g_block ?_ | refine g_ret ?_ | refine g_return_n ?_ | refine g_exit ?_ | refine g_skip ?_)
    refine o_move ?_
    refine o_sub (c := ((i : Nat) : Int)) rfl rfl (by omega) (by omega) (by omega) ?_
    refine o_assign ?_
    refine g_endt ?_
    repeat (first | refine g_endt ?_ | refine g_end ?_ | refine g_then ?_ | refine g_in_normal ?_ | refine g_then_ret ?_ | refine g_in_ret ?_ | refine g_then_exit ?_ | refine g_in_exit rfl ?_ | refine g_in_exit_ne (by decide) ?_ | refine g_seq ?_ | refine g_region ?_ | refine g_block ?_ | refine g_ret ?_ | refine g_return_n ?_ | refine g_exit ?_ | refine g_skip ?_)
    exact g_meets ⟨(i, y), by show k ≤ i; omega, by show i ≤ ys.length; omega⟩ (by show i < i + 1; omega) (Sat.mem ⟨rfl, rfl, rfl, rfl, trivial⟩)
  · first | refine g_seq (g_cond_f rfl (by simpa using h) ?_) | refine g_cond_f rfl (by simpa using h) ?_
    have e : i = k := by omega
    subst e
    repeat (first | refine g_endt ?_ | refine g_end ?_ | refine g_then ?_ | refine g_in_normal ?_ | refine g_then_ret ?_ | refine g_in_ret ?_ | refine g_then_exit ?_ | refine g_in_exit rfl ?_ | refine g_in_exit_ne (by decide) ?_ | refine g_seq ?_ | refine g_region ?_ | refine g_block ?_ | refine g_ret ?_ | refine g_return_n ?_ | refine g_exit ?_ | refine g_skip ?_)
    refine g_draw [7] [0,1,2,3,4,5,6,7] [cellsB p #[.slice U (ys.length + 1) d, .bool false] 145, osl 110 PgSI.enc 4 U d (ys.take i ++ w :: ys.drop i), cellsB q x.val.cells 110] mixed rfl ?_
    refine ob_q rfl rfl ⟨_, fun X Q h => o_move (g_end (h _ _ ⟨rfl, rfl⟩)), ?_⟩
    refine ob_q rfl rfl ⟨_, fun X Q h => o_nil rfl (g_end (h _ _ ⟨rfl, rfl⟩)), ?_⟩
    refine ob_q rfl rfl ⟨_, fun X Q h => o_field rfl (g_end (h _ _ ⟨rfl, rfl⟩)), ?_⟩
    refine ob_q rfl rfl ⟨_, fun X Q h => o_load1 (v := .slice U (ys.length + 1) d) rfl rfl (g_end (h _ _ ⟨rfl, rfl⟩)), ?_⟩
    refine ob_q rfl rfl ⟨_, fun X Q h => o_move (g_end (h _ _ ⟨rfl, rfl⟩)), ?_⟩
    refine ob_q rfl rfl ⟨_, fun X Q h => o_loadN (v := x.val) rfl rfl rfl (g_end (h _ _ ⟨rfl, rfl⟩)), ?_⟩
    refine ob_q rfl rfl ⟨_, fun X Q h => o_indexR (i := i) rfl rfl rfl (by omega) hlen rfl (g_end (h _ _ ⟨rfl, rfl⟩)), ?_⟩
    refine ob_s ([]) rfl rfl rfl fun Qz hz => o_storeE (e := 110) (c := d) (v := x.val) (z := x) (i := i) (enc := PgSI.enc) (xs := ys.take i ++ w :: ys.drop i) rfl rfl rfl rfl (by omega) <| g_end (hz _ _ ⟨_, ob_fin, ?_⟩)
    clear hz Qz
    refine ob_nil ?_
    have hset : (ys.take i ++ w :: ys.drop i).set i x = ys.take i ++ x :: ys.drop i := by
      have h3 : (ys.take i).length = i := by simp; omega
      rw [List.set_append_right _ _ (by omega), h3, Nat.sub_self, List.set_cons_zero]
    rw [hset]
    repeat (first | refine g_endt ?_ | refine g_end ?_ | refine g_then ?_ | refine g_in_normal ?_ | refine g_then_ret ?_ | refine g_in_ret ?_ | refine g_then_exit ?_ | refine g_in_exit rfl ?_ | refine g_in_exit_ne (by decide) ?_ | refine g_seq ?_ | refine g_region ?_ | refine g_block ?_ | refine g_ret ?_ | refine g_return_n ?_ | refine g_exit ?_ | refine g_skip ?_)
    refine o_assign ?_
    first | refine g_endt ?_ | refine g_end ?_
    refine shutFSI p (ys.take i ++ x :: ys.drop i) U d (len := ys.length + 1) (by simp; omega) ?_
    repeat (first | refine g_endt ?_ | refine g_end ?_ | refine g_then ?_ | refine g_in_normal ?_ | refine g_then_ret ?_ | refine g_in_ret ?_ | refine g_then_exit ?_ | refine g_in_exit rfl ?_ | refine g_in_exit_ne (by decide) ?_ | refine g_seq ?_ | refine g_region ?_ | refine g_block ?_ | refine g_ret ?_ | refine g_return_n ?_ | refine g_exit ?_ | refine g_skip ?_)
    exact ret1 (K := [SetASI p (ys.take i ++ x :: ys.drop i)]) rfl (resT rfl) ⟨i, false, rfl, rfl, hk⟩
end Go.Proofs.Ytlognaddmbolgaa
