/- Parts of a proof, in order. -/
import Derived.Test.YtonjhakjnopbjaaZN1

set_option linter.unusedSimpArgs false
set_option linter.unusedVariables false
/- An ordered set's functions, for one type of members: made. -/
namespace Go.Proofs.Ytonjhakjnopbjaa
open Go Go.Sl
attribute [local irreducible] Code.wpIn roundPost bodyPostM runL Ret Meets Begin

theorem NilSI_set (p : Nat) {w0 : World} {A : SProp} {L M : List SProp} {Φ : World → Prop} [tk : Take1 L (cellsB p #[.slice none 0 0, .bool false] 137) M] (h : G w0 A (SetASI p [] :: M) Φ) : G w0 A L Φ :=
  G.perm tk.perm (G.nil_slice (α := PgSI) 111 PgSI.enc 4 (shutFSI p [] none 0 rfl (M := M) (tk := ⟨List.Perm.swap _ _ _⟩) h))
theorem NewSI_spec : Ctr Try.prog 83 [.slice none 0 0] [] (fun v M => ∃ p, v = .pointer (some ⟨p, 0, none⟩) ∧ M = [SetASI p []]) := by
  refine spec_of Try.func83 rfl Try.ntmps83 rfl fun w0 F => ?_
  repeat (first | refine g_endt ?_ | refine g_end ?_ | refine g_then ?_ | refine g_in_normal ?_ | refine g_then_ret ?_ | refine g_in_ret ?_ | refine g_then_exit ?_ | refine g_in_exit rfl ?_ | refine g_in_exit_ne (by decide) ?_ | refine g_seq ?_ | refine g_region ?_ | refine g_block ?_ | refine g_ret ?_ | refine g_return_n ?_ | refine g_exit ?_ | refine g_skip ?_)
  refine o_assign ?_
  first | refine g_endt ?_ | refine g_end ?_
  repeat (first | refine g_endt ?_ | refine g_end ?_ | refine g_then ?_ | refine g_in_normal ?_ | refine g_then_ret ?_ | refine g_in_ret ?_ | refine g_then_exit ?_ | refine g_in_exit rfl ?_ | refine g_in_exit_ne (by decide) ?_ | refine g_seq ?_ | refine g_region ?_ | refine g_block ?_ | refine g_ret ?_ | refine g_return_n ?_ | refine g_exit ?_ | refine g_skip ?_)
  refine o_build (.agg #[.slice none 0 0, .bool false]) (fun w => by kernel_rfl) ?_
  refine o_boxc #[.slice none 0 0, .bool false] rfl rfl fun p => ?_
  refine NilSI_set p ?_
  refine o_assign ?_
  refine g_endt ?_
  repeat (first | refine g_endt ?_ | refine g_end ?_ | refine g_then ?_ | refine g_in_normal ?_ | refine g_then_ret ?_ | refine g_in_ret ?_ | refine g_then_exit ?_ | refine g_in_exit rfl ?_ | refine g_in_exit_ne (by decide) ?_ | refine g_seq ?_ | refine g_region ?_ | refine g_block ?_ | refine g_ret ?_ | refine g_return_n ?_ | refine g_exit ?_ | refine g_skip ?_)
  refine o_move ?_
  refine o_len rfl rfl ?_
  refine o_move ?_
  first | refine g_endt ?_ | refine g_end ?_
  repeat (first | refine g_endt ?_ | refine g_end ?_ | refine g_then ?_ | refine g_in_normal ?_ | refine g_then_ret ?_ | refine g_in_ret ?_ | refine g_then_exit ?_ | refine g_in_exit rfl ?_ | refine g_in_exit_ne (by decide) ?_ | refine g_seq ?_ | refine g_region ?_ | refine g_block ?_ | refine g_ret ?_ | refine g_return_n ?_ | refine g_exit ?_ | refine g_skip ?_)
  refine g_loop (σ := Unit) (S := fun _ => [(3, .pointer (some ⟨p, 0, none⟩)), (9, .int .i64 0), (10, .int .i64 0)]) (H := fun _ => [SetASI p []]) (μ := fun _ => 0) (s0 := ()) (Sat.mem ⟨rfl, rfl, rfl, trivial⟩) ?_
  rintro _ ρ'
  repeat (first | refine g_endt ?_ | refine g_end ?_ | refine g_then ?_ | refine g_in_normal ?_ | refine g_then_ret ?_ | refine g_in_ret ?_ | refine g_then_exit ?_ | refine g_in_exit rfl ?_ | refine g_in_exit_ne (by decide) ?_ | refine g_seq ?_ | refine g_region ?_ | refine g_block ?_ | refine g_ret ?_ | refine g_return_n ?_ | refine g_exit ?_ | refine g_skip ?_)
  refine o_lss rfl rfl ?_
  first | refine g_endt ?_ | refine g_end ?_
  first | refine g_seq (g_cond_f rfl (rfl) ?_) | refine g_cond_f rfl (rfl) ?_
  repeat (first | refine g_endt ?_ | refine g_end ?_ | refine g_then ?_ | refine g_in_normal ?_ | refine g_then_ret ?_ | refine g_in_ret ?_ | refine g_then_exit ?_ | refine g_in_exit rfl ?_ | refine g_in_exit_ne (by decide) ?_ | refine g_seq ?_ | refine g_region ?_ | refine g_block ?_ | refine g_ret ?_ | refine g_return_n ?_ | refine g_exit ?_ | refine g_skip ?_)
  refine o_move ?_
  refine o_assign ?_
  first | refine g_endt ?_ | refine g_end ?_
  repeat (first | refine g_endt ?_ | refine g_end ?_ | refine g_then ?_ | refine g_in_normal ?_ | refine g_then_ret ?_ | refine g_in_ret ?_ | refine g_then_exit ?_ | refine g_in_exit rfl ?_ | refine g_in_exit_ne (by decide) ?_ | refine g_seq ?_ | refine g_region ?_ | refine g_block ?_ | refine g_ret ?_ | refine g_return_n ?_ | refine g_exit ?_ | refine g_skip ?_)
  exact ret1 rfl (resT rfl) ⟨p, rfl, rfl⟩
end Go.Proofs.Ytonjhakjnopbjaa
/- An ordered set's functions, for one type of members: Drop, Get, At, Len. -/
namespace Go.Proofs.Ytonjhakjnopbjaa
open Go Go.Sl
attribute [local irreducible] Code.wpIn roundPost bodyPostM runL Ret Meets Begin

theorem shiftSI (ys : List PgSI) (k i : Nat) (y : PgSI) (hk : k ≤ i) (hi : i + 1 < ys.length) (hy : ys[i + 1]? = some y) : ((ys.eraseIdx k).take i ++ ys.drop i).set i y = (ys.eraseIdx k).take (i + 1) ++ ys.drop (i + 1) := by
  have hle : (ys.eraseIdx k).length = ys.length - 1 := by rw [List.length_eraseIdx]; split <;> omega
  have h1 : ((ys.eraseIdx k).take i).length = i := by simp [hle]; omega
  have h2 : ys.drop i = ys[i] :: ys.drop (i + 1) := List.drop_eq_getElem_cons (by omega)
  have h3 : (ys.eraseIdx k)[i]? = some y := by rw [List.getElem?_eraseIdx, if_neg (by omega), hy]
  rw [List.set_append_right _ _ (by omega), h1, Nat.sub_self, h2, List.set_cons_zero, take_snocPSI _ i y h3]
  simp
theorem DropSI_spec (p : Nat) (ys : List PgSI) (x : PgSI) (hs : Srt PgSI.cmp ys) (hl : ys.length < 1000000000) : Ctr Try.prog 85 [.pointer (some ⟨p, 0, none⟩), x.val] [SetASI p ys]
    (fun v M => ∃ (k : Nat) (there : Bool), v = .bool there ∧ M = [SetASI p (cond there (ys.eraseIdx k) ys)] ∧ FindR PgSI.cmp ys x k there) := by
  refine spec_of Try.func85 rfl Try.ntmps85 rfl fun w0 F => ?_
  repeat (first | refine g_endt ?_ | refine g_end ?_ | refine g_then ?_ | refine g_in_normal ?_ | refine g_then_ret ?_ | refine g_in_ret ?_ | refine g_then_exit ?_ | refine g_in_exit rfl ?_ | refine g_in_exit_ne (by decide) ?_ | refine g_seq ?_ | refine g_region ?_ | refine g_block ?_ | refine g_ret ?_ | refine g_return_n ?_ | refine g_exit ?_ | refine g_skip ?_)
  refine o_boxc x.val.cells rfl rfl fun q => ?_
  refine o_assign ?_
  first | refine g_endt ?_ | refine g_end ?_
  repeat (first | refine g_endt ?_ | refine g_end ?_ | refine g_then ?_ | refine g_in_normal ?_ | refine g_then_ret ?_ | refine g_in_ret ?_ | refine g_then_exit ?_ | refine g_in_exit rfl ?_ | refine g_in_exit_ne (by decide) ?_ | refine g_seq ?_ | refine g_region ?_ | refine g_block ?_ | refine g_ret ?_ | refine g_return_n ?_ | refine g_exit ?_ | refine g_skip ?_)
  refine o_move ?_
  refine o_peql rfl ?_
  first | refine g_endt ?_ | refine g_end ?_
  first | refine g_seq (g_cond_f rfl (rfl) ?_) | refine g_cond_f rfl (rfl) ?_
  repeat (first | refine g_endt ?_ | refine g_end ?_ | refine g_then ?_ | refine g_in_normal ?_ | refine g_then_ret ?_ | refine g_in_ret ?_ | refine g_then_exit ?_ | refine g_in_exit rfl ?_ | refine g_in_exit_ne (by decide) ?_ | refine g_seq ?_ | refine g_region ?_ | refine g_block ?_ | refine g_ret ?_ | refine g_return_n ?_ | refine g_exit ?_ | refine g_skip ?_)
  refine o_move ?_
  refine o_loadN (v := x.val) rfl rfl rfl ?_
  refine o_call (findSI_spec p ys x hs (by omega)) rfl rfl ?_
  rintro _ _ ⟨k, there, rfl, rfl, hk⟩
  refine o_move ?_
  refine o_extract rfl rfl ?_
  refine o_extract rfl rfl ?_
  refine o_assign ?_
  refine o_assign ?_
  first | refine g_endt ?_ | refine g_end ?_
  repeat (first | refine g_endt ?_ | refine g_end ?_ | refine g_then ?_ | refine g_in_normal ?_ | refine g_then_ret ?_ | refine g_in_ret ?_ | refine g_then_exit ?_ | refine g_in_exit rfl ?_ | refine g_in_exit_ne (by decide) ?_ | refine g_seq ?_ | refine g_region ?_ | refine g_block ?_ | refine g_ret ?_ | refine g_return_n ?_ | refine g_exit ?_ | refine g_skip ?_)
  refine o_move ?_
  refine o_not rfl ?_
  refine g_endt ?_
  cases there
  case false =>
    first | refine g_seq (g_cond_t rfl (rfl) ?_) | refine g_cond_t rfl (rfl) ?_
    repeat (first | refine g_endt ?_ | refine g_end ?_ | refine g_then ?_ | refine g_in_normal ?_ | refine g_then_ret ?_ | refine g_in_ret ?_ | refine g_then_exit ?_ | refine g_in_exit rfl ?_ | refine g_in_exit_ne (by decide) ?_ | refine g_seq ?_ | refine g_region ?_ | refine g_block ?_ | refine g_ret ?_ | refine g_return_n ?_ | refine g_exit ?_ | refine g_skip ?_)
    refine o_assign ?_
    first | refine g_endt ?_ | refine g_end ?_
    repeat (first | refine g_endt ?_ | refine g_end ?_ | refine g_then ?_ | refine g_in_normal ?_ | refine g_then_ret ?_ | refine g_in_ret ?_ | refine g_then_exit ?_ | refine g_in_exit rfl ?_ | refine g_in_exit_ne (by decide) ?_ | refine g_seq ?_ | refine g_region ?_ | refine g_block ?_ | refine g_ret ?_ | refine g_return_n ?_ | refine g_exit ?_ | refine g_skip ?_)
    exact ret1 (K := [SetASI p ys]) rfl (resT rfl) ⟨k, false, rfl, rfl, hk⟩
  first | refine g_seq (g_cond_f rfl (rfl) ?_) | refine g_cond_f rfl (rfl) ?_
  have hk1 : k < ys.length := by
    obtain ⟨y, hy, _⟩ := hk.2.1 rfl
    exact (List.getElem?_eq_some_iff.1 hy).1
  repeat (first | refine g_endt ?_ | refine g_end ?_ | refine g_then ?_ | refine g_in_normal ?_ | refine g_then_ret ?_ | refine g_in_ret ?_ | refine g_then_exit ?_ | refine g_in_exit rfl ?_ | refine g_in_exit_ne (by decide) ?_ | refine g_seq ?_ | refine g_region ?_ | refine g_block ?_ | refine g_ret ?_ | refine g_return_n ?_ | refine g_exit ?_ | refine g_skip ?_)
  refine o_move ?_
  refine o_call (ownSI_spec p ys (by omega)) rfl rfl ?_
  rintro _ _ ⟨S, c, rfl⟩
  refine g_endt ?_
  repeat (first | refine g_endt ?_ | refine g_end ?_ | refine g_then ?_ | refine g_in_normal ?_ | refine g_then_ret ?_ | refine g_in_ret ?_ | refine g_then_exit ?_ | refine g_in_exit rfl ?_ | refine g_in_exit_ne (by decide) ?_ | refine g_seq ?_ | refine g_region ?_ | refine g_block ?_ | refine g_ret ?_ | refine g_return_n ?_ | refine g_exit ?_ | refine g_skip ?_)
  refine o_move ?_
  refine o_assign ?_
  first | refine g_endt ?_ | refine g_end ?_
  repeat (first | refine g_endt ?_ | refine g_end ?_ | refine g_then ?_ | refine g_in_normal ?_ | refine g_then_ret ?_ | refine g_in_ret ?_ | refine g_then_exit ?_ | refine g_in_exit rfl ?_ | refine g_in_exit_ne (by decide) ?_ | refine g_seq ?_ | refine g_region ?_ | refine g_block ?_ | refine g_ret ?_ | refine g_return_n ?_ | refine g_exit ?_ | refine g_skip ?_)
  have h0 : (ys.eraseIdx k).take k ++ ys.drop k = ys := by
    rw [List.eraseIdx_eq_take_drop_succ, List.take_append_of_le_length (by simp; omega), List.take_take, Nat.min_self, List.take_append_drop]
  refine g_loop (σ := {i : Nat // k ≤ i ∧ i + 1 ≤ ys.length})
    (S := fun i => [(0, .pointer (some ⟨p, 0, none⟩)), (7, .int .i64 (i.1 : Int))])
    (H := fun i => [cellsB p #[.slice S ys.length c, .bool false] 137, osl 111 PgSI.enc 4 S c ((ys.eraseIdx k).take i.1 ++ ys.drop i.1)]) (μ := fun i => ys.length - i.1)
    (s0 := ⟨k, Nat.le_refl _, hk1⟩) (Sat.mem ⟨rfl, rfl, trivial⟩) (t := by simp only [h0]; infer_instance) ?_
  rintro ⟨i, h1, h2⟩ ρ'
  dsimp only at h1 h2 ⊢
  have hle : (ys.eraseIdx k).length = ys.length - 1 := by rw [List.length_eraseIdx, if_pos hk1]
  have hlen : ((ys.eraseIdx k).take i ++ ys.drop i).length = ys.length := by simp [hle]; omega
  repeat (first | refine g_endt ?_ | refine g_end ?_ | refine g_then ?_ | refine g_in_normal ?_ | refine g_then_ret ?_ | refine g_in_ret ?_ | refine g_then_exit ?_ | refine g_in_exit rfl ?_ | refine g_in_exit_ne (by decide) ?_ | refine g_seq ?_ | refine g_region ?_ | refine g_block ?_ | refine g_ret ?_ | refine g_return_n ?_ | refine g_exit ?_ | refine g_skip ?_)
  refine o_move ?_
  refine o_add (c := ((i + 1 : Nat) : Int)) rfl rfl (by omega) (by omega) (by omega) ?_
  refine o_move ?_
  refine o_nil rfl ?_
  refine o_field rfl ?_
  refine o_load1 (v := .slice S ys.length c) rfl rfl ?_
  refine o_len rfl rfl ?_
  refine o_lss rfl rfl ?_
  refine g_endt ?_
  by_cases h : i + 1 < ys.length
  · first | refine g_seq (g_cond_t rfl (by simp; omega) ?_) | refine g_cond_t rfl (by simp; omega) ?_
    repeat (first | refine g_endt ?_ | refine g_end ?_ | refine g_then ?_ | refine g_in_normal ?_ | refine g_then_ret ?_ | refine g_in_ret ?_ | refine g_then_exit ?_ | refine g_in_exit rfl ?_ | refine g_in_exit_ne (by decide) ?_ | refine g_seq ?_ | refine g_region ?_ | refine g_block ?_ | refine g_ret ?_ | refine g_return_n ?_ | refine g_exit ?_ | refine g_skip ?_)
    obtain ⟨y, hy⟩ : ∃ y, ys[i + 1]? = some y := ⟨_, List.getElem?_eq_getElem h⟩
    have hz : ((ys.eraseIdx k).take i ++ ys.drop i)[i + 1]? = some y := by
      have h3 : ((ys.eraseIdx k).take i).length = i := by simp [hle]; omega
      rw [List.getElem?_append_right (by omega), h3, List.getElem?_drop, show i + (i + 1 - i) = i + 1 by omega, hy]
    refine g_draw [14] [0,1,2,3,4,5,6,7,8,9,10,11,12,13,14] [cellsB p #[.slice S ys.length c, .bool false] 137, osl 111 PgSI.enc 4 S c ((ys.eraseIdx k).take i ++ ys.drop i)] mixed rfl ?_
    refine ob_q rfl rfl ⟨_, fun X Q h => o_move (g_end (h _ _ ⟨rfl, rfl⟩)), ?_⟩
    refine ob_q rfl rfl ⟨_, fun X Q h => o_nil rfl (g_end (h _ _ ⟨rfl, rfl⟩)), ?_⟩
    refine ob_q rfl rfl ⟨_, fun X Q h => o_field rfl (g_end (h _ _ ⟨rfl, rfl⟩)), ?_⟩
    refine ob_q rfl rfl ⟨_, fun X Q h => o_load1 (v := .slice S ys.length c) rfl rfl (g_end (h _ _ ⟨rfl, rfl⟩)), ?_⟩
    refine ob_q rfl rfl ⟨_, fun X Q h => o_move (g_end (h _ _ ⟨rfl, rfl⟩)), ?_⟩
    refine ob_q rfl rfl ⟨_, fun X Q h => o_move (g_end (h _ _ ⟨rfl, rfl⟩)), ?_⟩
    refine ob_q rfl rfl ⟨_, fun X Q h => o_nil rfl (g_end (h _ _ ⟨rfl, rfl⟩)), ?_⟩
    refine ob_q rfl rfl ⟨_, fun X Q h => o_field rfl (g_end (h _ _ ⟨rfl, rfl⟩)), ?_⟩
    refine ob_q rfl rfl ⟨_, fun X Q h => o_load1 (v := .slice S ys.length c) rfl rfl (g_end (h _ _ ⟨rfl, rfl⟩)), ?_⟩
    refine ob_q rfl rfl ⟨_, fun X Q h => o_move (g_end (h _ _ ⟨rfl, rfl⟩)), ?_⟩
    refine ob_q rfl rfl ⟨_, fun X Q h => o_add (c := ((i + 1 : Nat) : Int)) rfl rfl (by omega) (by omega) (by omega) (g_end (h _ _ ⟨rfl, rfl⟩)), ?_⟩
    refine ob_q rfl rfl ⟨_, fun X Q h => o_indexR (i := i + 1) rfl rfl rfl (by omega) hlen rfl (g_end (h _ _ ⟨rfl, rfl⟩)), ?_⟩
    refine ob_q rfl rfl ⟨_, fun X Q h => o_loadE (enc := PgSI.enc) rfl rfl hz (g_end (h _ _ ⟨rfl, rfl⟩)), ?_⟩
    refine ob_q rfl rfl ⟨_, fun X Q h => o_indexR (i := i) rfl rfl rfl (by omega) hlen rfl (g_end (h _ _ ⟨rfl, rfl⟩)), ?_⟩
    refine ob_s ([]) rfl rfl rfl fun Qz hz => o_storeE (e := 111) (c := c) (v := y.val) (z := y) (i := i) (enc := PgSI.enc) (xs := (ys.eraseIdx k).take i ++ ys.drop i) rfl rfl rfl rfl (by omega) <| g_end (hz _ _ ⟨_, ob_fin, ?_⟩)
    clear hz Qz
    refine ob_nil ?_
    rw [shiftSI ys k i y h1 h hy]
    repeat (first | refine g_endt ?_ | refine g_end ?_ | refine g_then ?_ | refine g_in_normal ?_ | refine g_then_ret ?_ | refine g_in_ret ?_ | refine g_then_exit ?_ | refine g_in_exit rfl ?_ | refine g_in_exit_ne (by decide) ?_ | refine g_seq ?_ | refine g_region ?_ | refine g_block ?_ | refine g_ret ?_ | refine g_return_n ?_ | refine g_exit ?_ | refine g_skip ?_)
    refine o_move ?_
    refine o_add (c := ((i + 1 : Nat) : Int)) rfl rfl (by omega) (by omega) (by omega) ?_
    refine o_assign ?_
    refine g_endt ?_
    repeat (first | refine g_endt ?_ | refine g_end ?_ | refine g_then ?_ | refine g_in_normal ?_ | refine g_then_ret ?_ | refine g_in_ret ?_ | refine g_then_exit ?_ | refine g_in_exit rfl ?_ | refine g_in_exit_ne (by decide) ?_ | refine g_seq ?_ | refine g_region ?_ | refine g_block ?_ | refine g_ret ?_ | refine g_return_n ?_ | refine g_exit ?_ | refine g_skip ?_)
    exact g_meets ⟨i + 1, by omega, by omega⟩ (by show ys.length - (i + 1) < ys.length - i; omega) (Sat.mem ⟨rfl, rfl, trivial⟩)
  · first | refine g_seq (g_cond_f rfl (by simp; omega) ?_) | refine g_cond_f rfl (by simp; omega) ?_
    repeat (first | refine g_endt ?_ | refine g_end ?_ | refine g_then ?_ | refine g_in_normal ?_ | refine g_then_ret ?_ | refine g_in_ret ?_ | refine g_then_exit ?_ | refine g_in_exit rfl ?_ | refine g_in_exit_ne (by decide) ?_ | refine g_seq ?_ | refine g_region ?_ | refine g_block ?_ | refine g_ret ?_ | refine g_return_n ?_ | refine g_exit ?_ | refine g_skip ?_)
    refine g_draw [14] [0,1,2,3,4,5,6,7,8,9,10,11,12,13,14] [cellsB p #[.slice S ys.length c, .bool false] 137, osl 111 PgSI.enc 4 S c ((ys.eraseIdx k).take i ++ ys.drop i)] mixed rfl ?_
    refine ob_q rfl rfl ⟨_, fun X Q h => o_move (g_end (h _ _ ⟨rfl, rfl⟩)), ?_⟩
    refine ob_q rfl rfl ⟨_, fun X Q h => o_move (g_end (h _ _ ⟨rfl, rfl⟩)), ?_⟩
    refine ob_q rfl rfl ⟨_, fun X Q h => o_nil rfl (g_end (h _ _ ⟨rfl, rfl⟩)), ?_⟩
    refine ob_q rfl rfl ⟨_, fun X Q h => o_field rfl (g_end (h _ _ ⟨rfl, rfl⟩)), ?_⟩
    refine ob_q rfl rfl ⟨_, fun X Q h => o_load1 (v := .slice S ys.length c) rfl rfl (g_end (h _ _ ⟨rfl, rfl⟩)), ?_⟩
    refine ob_q rfl rfl ⟨_, fun X Q h => o_move (g_end (h _ _ ⟨rfl, rfl⟩)), ?_⟩
    refine ob_q rfl rfl ⟨_, fun X Q h => o_nil rfl (g_end (h _ _ ⟨rfl, rfl⟩)), ?_⟩
    refine ob_q rfl rfl ⟨_, fun X Q h => o_field rfl (g_end (h _ _ ⟨rfl, rfl⟩)), ?_⟩
    refine ob_q rfl rfl ⟨_, fun X Q h => o_load1 (v := .slice S ys.length c) rfl rfl (g_end (h _ _ ⟨rfl, rfl⟩)), ?_⟩
    refine ob_q rfl rfl ⟨_, fun X Q h => o_len rfl rfl (g_end (h _ _ ⟨rfl, rfl⟩)), ?_⟩
    refine ob_q rfl rfl ⟨_, fun X Q h => o_sub (c := ((ys.length - 1 : Nat) : Int)) rfl rfl (by omega) (by omega) (by omega) (g_end (h _ _ ⟨rfl, rfl⟩)), ?_⟩
    refine ob_q rfl rfl ⟨_, fun X Q h => o_uptoR (e := 111) (enc := PgSI.enc) (sz := 4) (c := c) (k := ys.length - 1) (xs := (ys.eraseIdx k).take i ++ ys.drop i) rfl rfl rfl hlen (by omega) (g_end (h _ _ ⟨rfl, rfl⟩)), ?_⟩
    refine ob_q rfl rfl ⟨_, fun X Q h => o_nil rfl (g_end (h _ _ ⟨rfl, rfl⟩)), ?_⟩
    refine ob_q rfl rfl ⟨_, fun X Q h => o_field rfl (g_end (h _ _ ⟨rfl, rfl⟩)), ?_⟩
    refine ob_s ([]) rfl rfl rfl fun Qz hz => o_store (v := .slice S (ys.length - 1) c) rfl rfl rfl rfl rfl <| g_end (hz _ _ ⟨_, ob_fin, ?_⟩)
    clear hz Qz
    refine ob_nil ?_
    refine G.norm p #[.slice S (ys.length - 1) c, .bool false] rfl ?_
    refine G.shorten (e := 111) (enc := PgSI.enc) (sz := 4) (S := S) (c := c) (xs := (ys.eraseIdx k).take i ++ ys.drop i) (ys.length - 1) (by omega) ?_
    have he : ((ys.eraseIdx k).take i ++ ys.drop i).take (ys.length - 1) = ys.eraseIdx k := by
      have h3 : ((ys.eraseIdx k).take i).length = ys.length - 1 := by simp [hle]; omega
      rw [List.take_append_of_le_length (by omega), List.take_of_length_le (by omega), List.take_of_length_le (by omega)]
    rw [he]
    repeat (first | refine g_endt ?_ | refine g_end ?_ | refine g_then ?_ | refine g_in_normal ?_ | refine g_then_ret ?_ | refine g_in_ret ?_ | refine g_then_exit ?_ | refine g_in_exit rfl ?_ | refine g_in_exit_ne (by decide) ?_ | refine g_seq ?_ | refine g_region ?_ | refine g_block ?_ | refine g_ret ?_ | refine g_return_n ?_ | refine g_exit ?_ | refine g_skip ?_)
    refine o_assign ?_
    first | refine g_endt ?_ | refine g_end ?_
    refine shutFSI p (ys.eraseIdx k) S c (len := ys.length - 1) hle ?_
    repeat (first | refine g_endt ?_ | refine g_end ?_ | refine g_then ?_ | refine g_in_normal ?_ | refine g_then_ret ?_ | refine g_in_ret ?_ | refine g_then_exit ?_ | refine g_in_exit rfl ?_ | refine g_in_exit_ne (by decide) ?_ | refine g_seq ?_ | refine g_region ?_ | refine g_block ?_ | refine g_ret ?_ | refine g_return_n ?_ | refine g_exit ?_ | refine g_skip ?_)
    exact ret1 (K := [SetASI p (ys.eraseIdx k)]) rfl (resT rfl) ⟨k, true, rfl, rfl, hk⟩
end Go.Proofs.Ytonjhakjnopbjaa
/- An ordered set's functions, for one type of members: asked. -/
namespace Go.Proofs.Ytonjhakjnopbjaa
open Go Go.Sl
attribute [local irreducible] Code.wpIn roundPost bodyPostM runL Ret Meets Begin

/-- What Get tells. -/
def GetRSI (ys : List PgSI) (x : PgSI) (o : Option PgSI) : Prop := match o with
  | some y => ∃ k, FindR PgSI.cmp ys x k true ∧ ys[k]? = some y
  | none => ∃ k, FindR PgSI.cmp ys x k false
theorem GetSI_spec (p : Nat) (ys : List PgSI) (x : PgSI) (hs : Srt PgSI.cmp ys) (hl : ys.length < 1000000000) : Ctr Try.prog 77 [.pointer (some ⟨p, 0, none⟩), x.val] [SetASI p ys]
    (fun v M => ∃ (o : Option PgSI), v = .tuple #[(o.getD PgSI.zero).val, .bool o.isSome] ∧ M = [SetASI p ys] ∧ GetRSI ys x o) := by
  refine spec_of Try.func77 rfl Try.ntmps77 rfl fun w0 F => ?_
  repeat (first | refine g_endt ?_ | refine g_end ?_ | refine g_then ?_ | refine g_in_normal ?_ | refine g_then_ret ?_ | refine g_in_ret ?_ | refine g_then_exit ?_ | refine g_in_exit rfl ?_ | refine g_in_exit_ne (by decide) ?_ | refine g_seq ?_ | refine g_region ?_ | refine g_block ?_ | refine g_ret ?_ | refine g_return_n ?_ | refine g_exit ?_ | refine g_skip ?_)
  refine o_boxc x.val.cells rfl rfl fun q => ?_
  refine o_alloc fun r => ?_
  refine o_assign ?_
  first | refine g_endt ?_ | refine g_end ?_
  repeat (first | refine g_endt ?_ | refine g_end ?_ | refine g_then ?_ | refine g_in_normal ?_ | refine g_then_ret ?_ | refine g_in_ret ?_ | refine g_then_exit ?_ | refine g_in_exit rfl ?_ | refine g_in_exit_ne (by decide) ?_ | refine g_seq ?_ | refine g_region ?_ | refine g_block ?_ | refine g_ret ?_ | refine g_return_n ?_ | refine g_exit ?_ | refine g_skip ?_)
  refine o_alloc fun z => ?_
  refine g_endt ?_
  repeat (first | refine g_endt ?_ | refine g_end ?_ | refine g_then ?_ | refine g_in_normal ?_ | refine g_then_ret ?_ | refine g_in_ret ?_ | refine g_then_exit ?_ | refine g_in_exit rfl ?_ | refine g_in_exit_ne (by decide) ?_ | refine g_seq ?_ | refine g_region ?_ | refine g_block ?_ | refine g_ret ?_ | refine g_return_n ?_ | refine g_exit ?_ | refine g_skip ?_)
  refine o_move ?_
  refine o_peql rfl ?_
  first | refine g_endt ?_ | refine g_end ?_
  first | refine g_seq (g_cond_f rfl (rfl) ?_) | refine g_cond_f rfl (rfl) ?_
  repeat (first | refine g_endt ?_ | refine g_end ?_ | refine g_then ?_ | refine g_in_normal ?_ | refine g_then_ret ?_ | refine g_in_ret ?_ | refine g_then_exit ?_ | refine g_in_exit rfl ?_ | refine g_in_exit_ne (by decide) ?_ | refine g_seq ?_ | refine g_region ?_ | refine g_block ?_ | refine g_ret ?_ | refine g_return_n ?_ | refine g_exit ?_ | refine g_skip ?_)
  refine o_move ?_
  refine o_loadN (v := x.val) rfl rfl rfl ?_
  refine o_call (findSI_spec p ys x hs (by omega)) rfl rfl ?_
  rintro _ _ ⟨k, there, rfl, rfl, hk⟩
  refine o_move ?_
  refine o_extract rfl rfl ?_
  refine o_extract rfl rfl ?_
  refine o_assign ?_
  refine o_assign ?_
  first | refine g_endt ?_ | refine g_end ?_
  repeat (first | refine g_endt ?_ | refine g_end ?_ | refine g_then ?_ | refine g_in_normal ?_ | refine g_then_ret ?_ | refine g_in_ret ?_ | refine g_then_exit ?_ | refine g_in_exit rfl ?_ | refine g_in_exit_ne (by decide) ?_ | refine g_seq ?_ | refine g_region ?_ | refine g_block ?_ | refine g_ret ?_ | refine g_return_n ?_ | refine g_exit ?_ | refine g_skip ?_)
  refine o_move ?_
  refine o_not rfl ?_
  refine g_endt ?_
  cases there
  case false =>
    first | refine g_seq (g_cond_t rfl (rfl) ?_) | refine g_cond_t rfl (rfl) ?_
    repeat (first | refine g_endt ?_ | refine g_end ?_ | refine g_then ?_ | refine g_in_normal ?_ | refine g_then_ret ?_ | refine g_in_ret ?_ | refine g_then_exit ?_ | refine g_in_exit rfl ?_ | refine g_in_exit_ne (by decide) ?_ | refine g_seq ?_ | refine g_region ?_ | refine g_block ?_ | refine g_ret ?_ | refine g_return_n ?_ | refine g_exit ?_ | refine g_skip ?_)
    refine o_loadN (v := PgSI.zero.val) rfl rfl rfl ?_
    refine o_store (v := PgSI.zero.val) rfl rfl rfl rfl rfl ?_
    refine o_assign ?_
    first | refine g_endt ?_ | refine g_end ?_
    refine G.norm r PgSI.zero.val.cells rfl ?_
    repeat (first | refine g_endt ?_ | refine g_end ?_ | refine g_then ?_ | refine g_in_normal ?_ | refine g_then_ret ?_ | refine g_in_ret ?_ | refine g_then_exit ?_ | refine g_in_exit rfl ?_ | refine g_in_exit_ne (by decide) ?_ | refine g_seq ?_ | refine g_region ?_ | refine g_block ?_ | refine g_ret ?_ | refine g_return_n ?_ | refine g_exit ?_ | refine g_skip ?_)
    exact ret2 (K := [SetASI p ys]) rfl (resCN (v := PgSI.zero.val) rfl rfl rfl) (resT rfl) ⟨none, rfl, rfl, k, hk⟩
  first | refine g_seq (g_cond_f rfl (rfl) ?_) | refine g_cond_f rfl (rfl) ?_
  obtain ⟨y, hy, hc⟩ := hk.2.1 rfl
  have hk1 : k < ys.length := (List.getElem?_eq_some_iff.1 hy).1
  repeat (first | refine g_endt ?_ | refine g_end ?_ | refine g_then ?_ | refine g_in_normal ?_ | refine g_then_ret ?_ | refine g_in_ret ?_ | refine g_then_exit ?_ | refine g_in_exit rfl ?_ | refine g_in_exit_ne (by decide) ?_ | refine g_seq ?_ | refine g_region ?_ | refine g_block ?_ | refine g_ret ?_ | refine g_return_n ?_ | refine g_exit ?_ | refine g_skip ?_)
  refine openSI p ys fun S c b => ?_
  refine o_move ?_
  refine o_nil rfl ?_
  refine o_field rfl ?_
  refine o_load1 (v := .slice S ys.length c) rfl rfl ?_
  refine o_move ?_
  refine o_indexR (ys := ys) (i := k) rfl rfl rfl hk1 rfl rfl ?_
  refine o_loadE (ys := ys) rfl rfl hy ?_
  refine o_store (v := y.val) rfl rfl rfl rfl rfl ?_
  refine o_assign ?_
  first | refine g_endt ?_ | refine g_end ?_
  refine G.norm r y.val.cells rfl ?_
  refine shutSI p ys S c b rfl ?_
  repeat (first | refine g_endt ?_ | refine g_end ?_ | refine g_then ?_ | refine g_in_normal ?_ | refine g_then_ret ?_ | refine g_in_ret ?_ | refine g_then_exit ?_ | refine g_in_exit rfl ?_ | refine g_in_exit_ne (by decide) ?_ | refine g_seq ?_ | refine g_region ?_ | refine g_block ?_ | refine g_ret ?_ | refine g_return_n ?_ | refine g_exit ?_ | refine g_skip ?_)
  exact ret2 (K := [SetASI p ys]) rfl (resCN (v := y.val) rfl rfl rfl) (resT rfl) ⟨some y, rfl, rfl, k, hk, hy⟩
end Go.Proofs.Ytonjhakjnopbjaa
/- An ordered map's functions, for one type of keys and one of values: made, put. -/
namespace Go.Proofs.Ytonjhakjnopbjaa
open Go Go.Sl
attribute [local irreducible] Code.wpIn roundPost bodyPostM runL Ret Meets Begin

theorem GetMSI_spec (p : Nat) (ys : List PgSI) (x : PgSI) (hs : Srt PgSI.cmp ys) (hl : ys.length < 1000000000) : Ctr Try.prog 77 [.pointer (some ⟨p, 0, none⟩), x.val] [SetASI p ys]
    (fun v M => v = .tuple #[((getM PgSI.cmp ys x).getD PgSI.zero).val, .bool (getM PgSI.cmp ys x).isSome] ∧ M = [SetASI p ys]) := (GetSI_spec p ys x hs hl).mono fun v M ⟨o, h1, h2, h3⟩ => by
  have : getM PgSI.cmp ys x = o := by
    cases o with
    | none => obtain ⟨k, hk⟩ := h3; exact getM_none hk
    | some y => obtain ⟨k, hk, hy⟩ := h3; exact getM_some PgSI.lin hs hk hy
  rw [this]
  exact ⟨h1, h2⟩
def MapASI (m : Nat) (ys : List PgSI) : SProp := ex fun p : Nat => sl [cellsB m #[.pointer (some ⟨p, 0, none⟩)] 115, SetASI p ys]
section
variable {w0 : World} {A : SProp} {L M : List SProp} {Φ : World → Prop}
theorem openMSI (m : Nat) (ys : List PgSI) [tk : Take1 L (MapASI m ys) M] (h : ∀ p, G w0 A (SetASI p ys :: cellsB m #[.pointer (some ⟨p, 0, none⟩)] 115 :: M) Φ) : G w0 A L Φ :=
  G.perm tk.perm (G.ex fun p => G.open_sl (G.perm (List.Perm.swap _ _ _) (h p)))
theorem shutMSI (m p : Nat) (ys : List PgSI) [tk : Take L [cellsB m #[.pointer (some ⟨p, 0, none⟩)] 115, SetASI p ys] M] (h : G w0 A (MapASI m ys :: M) Φ) : G w0 A L Φ :=
  G.perm tk.perm (G.ent ((sl_append_to _ M).trans (Ent.star (show Ent _ (MapASI m ys) from fun _ _ x => ⟨p, x⟩) (Ent.refl _))) h)
end
theorem MapASI_of (m p : Nat) (ys : List PgSI) {L M : List SProp} [tk : Take1 L (MapASI m ys) M] : Ent (sl (SetASI p ys :: cellsB m #[.pointer (some ⟨p, 0, none⟩)] 115 :: M)) (sl L) := by
  refine Ent.trans ?_ (sl_perm tk.perm.symm)
  refine (sl_perm (List.Perm.swap (cellsB m #[.pointer (some ⟨p, 0, none⟩)] 115) (SetASI p ys) M)).trans ?_
  exact (sl_append_to [cellsB m #[.pointer (some ⟨p, 0, none⟩)] 115, SetASI p ys] M).trans (Ent.star (show Ent _ (MapASI m ys) from fun _ _ x => ⟨p, x⟩) (Ent.refl _))
theorem atSI_spec (k : SymD) : Ctr Try.prog 78 [k.val] [] (fun v M => v = (PgSI.mk k PgSI.zero.v).val ∧ M = []) := by
  refine spec_of Try.func78 rfl Try.ntmps78 rfl fun w0 F => ?_
  repeat (first | refine g_endt ?_ | refine g_end ?_ | refine g_then ?_ | refine g_in_normal ?_ | refine g_then_ret ?_ | refine g_in_ret ?_ | refine g_then_exit ?_ | refine g_in_exit rfl ?_ | refine g_in_exit_ne (by decide) ?_ | refine g_seq ?_ | refine g_region ?_ | refine g_block ?_ | refine g_ret ?_ | refine g_return_n ?_ | refine g_exit ?_ | refine g_skip ?_)
  refine o_boxc k.val.cells rfl rfl fun b => ?_
  refine o_alloc fun r => ?_
  refine g_endt ?_
  repeat (first | refine g_endt ?_ | refine g_end ?_ | refine g_then ?_ | refine g_in_normal ?_ | refine g_then_ret ?_ | refine g_in_ret ?_ | refine g_then_exit ?_ | refine g_in_exit rfl ?_ | refine g_in_exit_ne (by decide) ?_ | refine g_seq ?_ | refine g_region ?_ | refine g_block ?_ | refine g_ret ?_ | refine g_return_n ?_ | refine g_exit ?_ | refine g_skip ?_)
  refine o_loadN (v := k.val) rfl rfl rfl ?_
  refine o_build (PgSI.mk k PgSI.zero.v).val (fun w => by kernel_rfl) ?_
  refine o_store (v := (PgSI.mk k PgSI.zero.v).val) rfl rfl rfl rfl rfl ?_
  refine g_endt ?_
  repeat (first | refine g_endt ?_ | refine g_end ?_ | refine g_then ?_ | refine g_in_normal ?_ | refine g_then_ret ?_ | refine g_in_ret ?_ | refine g_then_exit ?_ | refine g_in_exit rfl ?_ | refine g_in_exit_ne (by decide) ?_ | refine g_seq ?_ | refine g_region ?_ | refine g_block ?_ | refine g_ret ?_ | refine g_return_n ?_ | refine g_exit ?_ | refine g_skip ?_)
  exact ret1 rfl (resCN (v := (PgSI.mk k PgSI.zero.v).val) rfl rfl rfl) ⟨rfl, rfl⟩
theorem NewMSI_spec : Ctr Try.prog 70 [] [] (fun v M => ∃ m, v = .pointer (some ⟨m, 0, none⟩) ∧ M = [MapASI m []]) := by
  refine spec_of Try.func70 rfl Try.ntmps70 rfl fun w0 F => ?_
  repeat (first | refine g_endt ?_ | refine g_end ?_ | refine g_then ?_ | refine g_in_normal ?_ | refine g_then_ret ?_ | refine g_in_ret ?_ | refine g_then_exit ?_ | refine g_in_exit rfl ?_ | refine g_in_exit_ne (by decide) ?_ | refine g_seq ?_ | refine g_region ?_ | refine g_block ?_ | refine g_ret ?_ | refine g_return_n ?_ | refine g_exit ?_ | refine g_skip ?_)
  refine o_assign ?_
  first | refine g_endt ?_ | refine g_end ?_
  repeat (first | refine g_endt ?_ | refine g_end ?_ | refine g_then ?_ | refine g_in_normal ?_ | refine g_then_ret ?_ | refine g_in_ret ?_ | refine g_then_exit ?_ | refine g_in_exit rfl ?_ | refine g_in_exit_ne (by decide) ?_ | refine g_seq ?_ | refine g_region ?_ | refine g_block ?_ | refine g_ret ?_ | refine g_return_n ?_ | refine g_exit ?_ | refine g_skip ?_)
  refine o_call NewSI_spec rfl rfl ?_
  rintro _ _ ⟨p, rfl, rfl⟩
  refine o_build (.agg #[.pointer (some ⟨p, 0, none⟩)]) (fun w => by kernel_rfl) ?_
  refine o_boxc #[.pointer (some ⟨p, 0, none⟩)] rfl rfl fun m => ?_
  refine o_assign ?_
  refine g_endt ?_
  refine shutMSI m p [] ?_
  repeat (first | refine g_endt ?_ | refine g_end ?_ | refine g_then ?_ | refine g_in_normal ?_ | refine g_then_ret ?_ | refine g_in_ret ?_ | refine g_then_exit ?_ | refine g_in_exit rfl ?_ | refine g_in_exit_ne (by decide) ?_ | refine g_seq ?_ | refine g_region ?_ | refine g_block ?_ | refine g_ret ?_ | refine g_return_n ?_ | refine g_exit ?_ | refine g_skip ?_)
  exact ret1 rfl (resT rfl) ⟨m, rfl, rfl⟩
/-- What a map is behind a Put of k with v that has found place i. -/
def putLSI (ys : List PgSI) (k : SymD) (v : Int) (i : Nat) (there : Bool) : List PgSI := cond there (ys.set i ⟨(ys[i]?.map (·.k)).getD k, v⟩) (ys.take i ++ ⟨k, v⟩ :: ys.drop i)
theorem PutMSI_spec (m : Nat) (ys : List PgSI) (k : SymD) (v : Int) (hs : Srt PgSI.cmp ys) (hl : ys.length < 999999999) : Ctr Try.prog 71 [.pointer (some ⟨m, 0, none⟩), k.val, PgSI.vval v] [MapASI m ys]
    (fun u M => ∃ (i : Nat) (there : Bool), u = .bool !there ∧ M = [MapASI m (putLSI ys k v i there)] ∧ FindR PgSI.cmp ys ⟨k, v⟩ i there) := by
  refine spec_of Try.func71 rfl Try.ntmps71 rfl fun w0 F => ?_
  repeat (first | refine g_endt ?_ | refine g_end ?_ | refine g_then ?_ | refine g_in_normal ?_ | refine g_then_ret ?_ | refine g_in_ret ?_ | refine g_then_exit ?_ | refine g_in_exit rfl ?_ | refine g_in_exit_ne (by decide) ?_ | refine g_seq ?_ | refine g_region ?_ | refine g_block ?_ | refine g_ret ?_ | refine g_return_n ?_ | refine g_exit ?_ | refine g_skip ?_)
  refine openMSI m ys fun p => ?_
  refine o_boxc k.val.cells rfl rfl fun b => ?_
  refine o_assign ?_
  first | refine g_endt ?_ | refine g_end ?_
  repeat (first | refine g_endt ?_ | refine g_end ?_ | refine g_then ?_ | refine g_in_normal ?_ | refine g_then_ret ?_ | refine g_in_ret ?_ | refine g_then_exit ?_ | refine g_in_exit rfl ?_ | refine g_in_exit_ne (by decide) ?_ | refine g_seq ?_ | refine g_region ?_ | refine g_block ?_ | refine g_ret ?_ | refine g_return_n ?_ | refine g_exit ?_ | refine g_skip ?_)
  refine o_move ?_
  refine o_peql rfl ?_
  first | refine g_endt ?_ | refine g_end ?_
  first | refine g_seq (g_cond_f rfl (rfl) ?_) | refine g_cond_f rfl (rfl) ?_
  repeat (first | refine g_endt ?_ | refine g_end ?_ | refine g_then ?_ | refine g_in_normal ?_ | refine g_then_ret ?_ | refine g_in_ret ?_ | refine g_then_exit ?_ | refine g_in_exit rfl ?_ | refine g_in_exit_ne (by decide) ?_ | refine g_seq ?_ | refine g_region ?_ | refine g_block ?_ | refine g_ret ?_ | refine g_return_n ?_ | refine g_exit ?_ | refine g_skip ?_)
  refine g_draw [10, 11] [0,1,2,3,4,5,6,7,8,9,10,11,12] [SetASI p ys, cellsB m #[.pointer (some ⟨p, 0, none⟩)] 115, cellsB b k.val.cells 31] mixed rfl ?_
  refine ob_q rfl rfl ⟨_, fun X Q h => o_move (g_end (h _ _ ⟨rfl, rfl⟩)), ?_⟩
  refine ob_q rfl rfl ⟨_, fun X Q h => o_nil rfl (g_end (h _ _ ⟨rfl, rfl⟩)), ?_⟩
  refine ob_q rfl rfl ⟨_, fun X Q h => o_field rfl (g_end (h _ _ ⟨rfl, rfl⟩)), ?_⟩
  refine ob_q rfl rfl ⟨_, fun X Q h => o_load1 (v := .pointer (some ⟨p, 0, none⟩)) rfl rfl (g_end (h _ _ ⟨rfl, rfl⟩)), ?_⟩
  refine ob_q rfl rfl ⟨_, fun X Q h => o_loadN (v := k.val) rfl rfl rfl (g_end (h _ _ ⟨rfl, rfl⟩)), ?_⟩
  refine ob_q rfl rfl ⟨_, fun X Q h => o_call (atSI_spec k) rfl rfl <| by rintro _ _ ⟨rfl, rfl⟩; exact (g_end (h _ _ ⟨rfl, rfl⟩)), ?_⟩
  refine ob_q rfl rfl ⟨_, fun X Q h => o_call (GetMSI_spec p ys ⟨k, PgSI.zero.v⟩ hs (by omega)) rfl rfl <| by rintro _ _ ⟨rfl, rfl⟩; exact (g_end (h _ _ ⟨rfl, rfl⟩)), ?_⟩
  refine ob_q rfl rfl ⟨_, fun X Q h => o_move (g_end (h _ _ ⟨rfl, rfl⟩)), ?_⟩
  refine ob_q rfl rfl ⟨_, fun X Q h => o_extract rfl rfl (g_end (h _ _ ⟨rfl, rfl⟩)), ?_⟩
  refine ob_q rfl rfl ⟨_, fun X Q h => o_extract rfl rfl (g_end (h _ _ ⟨rfl, rfl⟩)), ?_⟩
  generalize ho : getM PgSI.cmp ys ⟨k, PgSI.zero.v⟩ = o
  refine ob_l rfl rfl fun Qz hz => o_alloc fun r => g_end (hz _ _ ⟨_, ob_fin, ?_⟩)
  clear hz Qz
  refine ob_l rfl rfl fun Qz hz => o_store (v := (o.getD PgSI.zero).val) rfl rfl rfl rfl rfl <| g_end (hz _ _ ⟨_, ob_fin, ?_⟩)
  clear hz Qz
  refine ob_q rfl rfl ⟨_, fun X Q h => o_assign (g_end (h _ _ ⟨rfl, rfl⟩)), ?_⟩
  refine ob_nil ?_
  refine G.norm r (o.getD PgSI.zero).val.cells rfl ?_
  repeat (first | refine g_endt ?_ | refine g_end ?_ | refine g_then ?_ | refine g_in_normal ?_ | refine g_then_ret ?_ | refine g_in_ret ?_ | refine g_then_exit ?_ | refine g_in_exit rfl ?_ | refine g_in_exit_ne (by decide) ?_ | refine g_seq ?_ | refine g_region ?_ | refine g_block ?_ | refine g_ret ?_ | refine g_return_n ?_ | refine g_exit ?_ | refine g_skip ?_)
  refine o_move ?_
  refine o_not rfl ?_
  refine g_endt ?_
  cases o with
  | none =>
    first | refine g_seq (g_cond_t rfl (rfl) ?_) | refine g_cond_t rfl (rfl) ?_
    repeat (first | refine g_endt ?_ | refine g_end ?_ | refine g_then ?_ | refine g_in_normal ?_ | refine g_then_ret ?_ | refine g_in_ret ?_ | refine g_then_exit ?_ | refine g_in_exit rfl ?_ | refine g_in_exit_ne (by decide) ?_ | refine g_seq ?_ | refine g_region ?_ | refine g_block ?_ | refine g_ret ?_ | refine g_return_n ?_ | refine g_exit ?_ | refine g_skip ?_)
    refine g_draw [7] [0,1,2,3,4,5,6,7,8] [cellsB m #[.pointer (some ⟨p, 0, none⟩)] 115, cellsB b k.val.cells 31] mixed rfl ?_
    refine ob_q rfl rfl ⟨_, fun X Q h => o_move (g_end (h _ _ ⟨rfl, rfl⟩)), ?_⟩
    refine ob_q rfl rfl ⟨_, fun X Q h => o_nil rfl (g_end (h _ _ ⟨rfl, rfl⟩)), ?_⟩
    refine ob_q rfl rfl ⟨_, fun X Q h => o_field rfl (g_end (h _ _ ⟨rfl, rfl⟩)), ?_⟩
    refine ob_q rfl rfl ⟨_, fun X Q h => o_load1 (v := .pointer (some ⟨p, 0, none⟩)) rfl rfl (g_end (h _ _ ⟨rfl, rfl⟩)), ?_⟩
    refine ob_q rfl rfl ⟨_, fun X Q h => o_loadN (v := k.val) rfl rfl rfl (g_end (h _ _ ⟨rfl, rfl⟩)), ?_⟩
    refine ob_q rfl rfl ⟨_, fun X Q h => o_move (g_end (h _ _ ⟨rfl, rfl⟩)), ?_⟩
    refine ob_q rfl rfl ⟨_, fun X Q h => o_build (PgSI.mk k v).val (fun w => by kernel_rfl) (g_end (h _ _ ⟨rfl, rfl⟩)), ?_⟩
    refine ob_l rfl rfl fun Qz hz => o_call (PutSI_spec p ys ⟨k, v⟩ hs (by omega)) rfl rfl ?_
    rintro _ M1 ⟨i, there, rfl, hM, hk⟩
    have ht : there = false := by
      cases there with
      | false => rfl
      | true =>
        obtain ⟨y, hy, _⟩ := hk.2.1 rfl
        have hg : getM PgSI.cmp ys ⟨k, PgSI.zero.v⟩ = some y := getM_some PgSI.lin hs hk hy
        rw [ho] at hg; cases hg
    subst ht
    have hM : M1 = [SetASI p (putLSI ys k v i false)] := hM
    subst hM
    refine g_end (hz _ _ ⟨_, ob_fin, ?_⟩)
    clear hz Qz
    refine ob_q rfl rfl ⟨_, fun X Q h => o_assign (g_end (h _ _ ⟨rfl, rfl⟩)), ?_⟩
    refine ob_nil ?_
    refine shutMSI m p (putLSI ys k v i false) ?_
    repeat (first | refine g_endt ?_ | refine g_end ?_ | refine g_then ?_ | refine g_in_normal ?_ | refine g_then_ret ?_ | refine g_in_ret ?_ | refine g_then_exit ?_ | refine g_in_exit rfl ?_ | refine g_in_exit_ne (by decide) ?_ | refine g_seq ?_ | refine g_region ?_ | refine g_block ?_ | refine g_ret ?_ | refine g_return_n ?_ | refine g_exit ?_ | refine g_skip ?_)
    exact ret1 rfl (resT rfl) ⟨i, false, rfl, rfl, hk⟩
  | some old =>
    first | refine g_seq (g_cond_f rfl (rfl) ?_) | refine g_cond_f rfl (rfl) ?_
    obtain ⟨i, hi, hy⟩ : ∃ i, FindR PgSI.cmp ys ⟨k, PgSI.zero.v⟩ i true ∧ ys[i]? = some old := by
      have h1 := List.find?_some ho
      have h2 := List.mem_of_find?_eq_some ho
      obtain ⟨j, hj⟩ := List.mem_iff_getElem?.1 h2
      exact ⟨j, ⟨by have := (List.getElem?_eq_some_iff.1 hj).1; omega, fun _ => ⟨old, hj, by simpa using h1⟩, fun e => by cases e⟩, hj⟩
    have hc : PgSI.cmp old ⟨k, PgSI.zero.v⟩ = 0 := by
      obtain ⟨a, ha, ea⟩ := hi.2.1 rfl
      rw [hy] at ha; cases ha; exact ea
    refine G.norm r old.val.cells rfl ?_
    have hself : FindR PgSI.cmp ys old i true := ⟨hi.1, fun _ => ⟨old, hy, PgSI.lin.refl old⟩, fun e => by cases e⟩
    repeat (first | refine g_endt ?_ | refine g_end ?_ | refine g_then ?_ | refine g_in_normal ?_ | refine g_then_ret ?_ | refine g_in_ret ?_ | refine g_then_exit ?_ | refine g_in_exit rfl ?_ | refine g_in_exit_ne (by decide) ?_ | refine g_seq ?_ | refine g_region ?_ | refine g_block ?_ | refine g_ret ?_ | refine g_return_n ?_ | refine g_exit ?_ | refine g_skip ?_)
    refine g_draw [5] [0,1,2,3,4,5] [cellsB m #[.pointer (some ⟨p, 0, none⟩)] 115, cellsB r old.val.cells 111] mixed rfl ?_
    refine ob_q rfl rfl ⟨_, fun X Q h => o_move (g_end (h _ _ ⟨rfl, rfl⟩)), ?_⟩
    refine ob_q rfl rfl ⟨_, fun X Q h => o_nil rfl (g_end (h _ _ ⟨rfl, rfl⟩)), ?_⟩
    refine ob_q rfl rfl ⟨_, fun X Q h => o_field rfl (g_end (h _ _ ⟨rfl, rfl⟩)), ?_⟩
    refine ob_q rfl rfl ⟨_, fun X Q h => o_load1 (v := .pointer (some ⟨p, 0, none⟩)) rfl rfl (g_end (h _ _ ⟨rfl, rfl⟩)), ?_⟩
    refine ob_q rfl rfl ⟨_, fun X Q h => o_loadN (v := old.val) rfl rfl rfl (g_end (h _ _ ⟨rfl, rfl⟩)), ?_⟩
    refine ob_l rfl rfl fun Qz hz => o_call (DropSI_spec p ys old hs (by omega)) rfl rfl ?_
    rintro _ M1 ⟨i1, there, rfl, hM, hk⟩
    have ht : there = true := by
      cases there with
      | true => rfl
      | false =>
        obtain ⟨h1, h2⟩ := hk.2.2 rfl
        have h3 := PgSI.lin.refl old
        by_cases hlt : i < i1
        · have := h1 i old hlt hy; omega
        · have := h2 i old (by omega) hy; omega
    subst ht
    have hii : i1 = i := FindR.one PgSI.lin hs hk hself
    subst hii
    have hM : M1 = [SetASI p (ys.eraseIdx i1)] := hM
    subst hM
    refine g_end (hz _ _ ⟨_, ob_fin, ?_⟩)
    clear hz Qz
    refine ob_nil ?_
    repeat (first | refine g_endt ?_ | refine g_end ?_ | refine g_then ?_ | refine g_in_normal ?_ | refine g_then_ret ?_ | refine g_in_ret ?_ | refine g_then_exit ?_ | refine g_in_exit rfl ?_ | refine g_in_exit_ne (by decide) ?_ | refine g_seq ?_ | refine g_region ?_ | refine g_block ?_ | refine g_ret ?_ | refine g_return_n ?_ | refine g_exit ?_ | refine g_skip ?_)
    refine g_draw [8] [0,1,2,3,4,5,6,7,8] [cellsB m #[.pointer (some ⟨p, 0, none⟩)] 115, cellsB r old.val.cells 111] mixed rfl ?_
    refine ob_q rfl rfl ⟨_, fun X Q h => o_move (g_end (h _ _ ⟨rfl, rfl⟩)), ?_⟩
    refine ob_q rfl rfl ⟨_, fun X Q h => o_nil rfl (g_end (h _ _ ⟨rfl, rfl⟩)), ?_⟩
    refine ob_q rfl rfl ⟨_, fun X Q h => o_field rfl (g_end (h _ _ ⟨rfl, rfl⟩)), ?_⟩
    refine ob_q rfl rfl ⟨_, fun X Q h => o_load1 (v := .pointer (some ⟨p, 0, none⟩)) rfl rfl (g_end (h _ _ ⟨rfl, rfl⟩)), ?_⟩
    refine ob_q rfl rfl ⟨_, fun X Q h => o_field rfl (g_end (h _ _ ⟨rfl, rfl⟩)), ?_⟩
    refine ob_q rfl rfl ⟨_, fun X Q h => o_loadN (v := old.k.val) rfl rfl rfl (g_end (h _ _ ⟨rfl, rfl⟩)), ?_⟩
    refine ob_q rfl rfl ⟨_, fun X Q h => o_move (g_end (h _ _ ⟨rfl, rfl⟩)), ?_⟩
    refine ob_q rfl rfl ⟨_, fun X Q h => o_build (PgSI.mk old.k v).val (fun w => by kernel_rfl) (g_end (h _ _ ⟨rfl, rfl⟩)), ?_⟩
    refine ob_l rfl rfl fun Qz hz => o_call (PutSI_spec p (ys.eraseIdx i1) ⟨old.k, v⟩ (Srt.erase hs i1) (by have : (ys.eraseIdx i1).length ≤ ys.length := List.length_eraseIdx_le _ _; omega)) rfl rfl ?_
    rintro _ M2 ⟨i2, there, rfl, hM, hk2⟩
    have hrep := replace PgSI.lin hs hy (x := ⟨old.k, v⟩) (PgSI.lin.refl old) hk2
    obtain ⟨rfl, hrep⟩ := hrep
    have hM : M2 = [SetASI p (putLSI ys k v i1 true)] := by
      rw [hM]
      show [SetASI p _] = [SetASI p (ys.set i1 ⟨(ys[i1]?.map (·.k)).getD k, v⟩)]
      rw [hy]
      show [SetASI p ((ys.eraseIdx i1).take i2 ++ ⟨old.k, v⟩ :: (ys.eraseIdx i1).drop i2)] = _
      rw [hrep]
      rfl
    subst hM
    refine g_end (hz _ _ ⟨_, ob_fin, ?_⟩)
    clear hz Qz
    refine ob_nil ?_
    repeat (first | refine g_endt ?_ | refine g_end ?_ | refine g_then ?_ | refine g_in_normal ?_ | refine g_then_ret ?_ | refine g_in_ret ?_ | refine g_then_exit ?_ | refine g_in_exit rfl ?_ | refine g_in_exit_ne (by decide) ?_ | refine g_seq ?_ | refine g_region ?_ | refine g_block ?_ | refine g_ret ?_ | refine g_return_n ?_ | refine g_exit ?_ | refine g_skip ?_)
    refine o_assign ?_
    first | refine g_endt ?_ | refine g_end ?_
    refine shutMSI m p (putLSI ys k v i1 true) ?_
    repeat (first | refine g_endt ?_ | refine g_end ?_ | refine g_then ?_ | refine g_in_normal ?_ | refine g_then_ret ?_ | refine g_in_ret ?_ | refine g_then_exit ?_ | refine g_in_exit rfl ?_ | refine g_in_exit_ne (by decide) ?_ | refine g_seq ?_ | refine g_region ?_ | refine g_block ?_ | refine g_ret ?_ | refine g_return_n ?_ | refine g_exit ?_ | refine g_skip ?_)
    exact ret1 rfl (resT rfl) ⟨i1, true, rfl, rfl, hi⟩
end Go.Proofs.Ytonjhakjnopbjaa
/- An ordered map's functions, for one type of keys and one of values: asked. -/
namespace Go.Proofs.Ytonjhakjnopbjaa
open Go Go.Sl
attribute [local irreducible] Code.wpIn roundPost bodyPostM runL Ret Meets Begin

theorem GetMapSI_spec (m : Nat) (ys : List PgSI) (k : SymD) (hs : Srt PgSI.cmp ys) (hl : ys.length < 1000000000) : Ctr Try.prog 64 [.pointer (some ⟨m, 0, none⟩), k.val] [MapASI m ys]
    (fun u M => u = .tuple #[PgSI.vval ((getM PgSI.cmp ys ⟨k, PgSI.zero.v⟩).getD PgSI.zero).v, .bool (getM PgSI.cmp ys ⟨k, PgSI.zero.v⟩).isSome] ∧ M = [MapASI m ys]) := by
  refine spec_of Try.func64 rfl Try.ntmps64 rfl fun w0 F => ?_
  repeat (first | refine g_endt ?_ | refine g_end ?_ | refine g_then ?_ | refine g_in_normal ?_ | refine g_then_ret ?_ | refine g_in_ret ?_ | refine g_then_exit ?_ | refine g_in_exit rfl ?_ | refine g_in_exit_ne (by decide) ?_ | refine g_seq ?_ | refine g_region ?_ | refine g_block ?_ | refine g_ret ?_ | refine g_return_n ?_ | refine g_exit ?_ | refine g_skip ?_)
  refine openMSI m ys fun p => ?_
  refine o_boxc k.val.cells rfl rfl fun b => ?_
  refine o_assign ?_
  refine o_assign ?_
  refine g_endt ?_
  repeat (first | refine g_endt ?_ | refine g_end ?_ | refine g_then ?_ | refine g_in_normal ?_ | refine g_then_ret ?_ | refine g_in_ret ?_ | refine g_then_exit ?_ | refine g_in_exit rfl ?_ | refine g_in_exit_ne (by decide) ?_ | refine g_seq ?_ | refine g_region ?_ | refine g_block ?_ | refine g_ret ?_ | refine g_return_n ?_ | refine g_exit ?_ | refine g_skip ?_)
  refine o_move ?_
  refine o_peql rfl ?_
  first | refine g_endt ?_ | refine g_end ?_
  first | refine g_seq (g_cond_f rfl (rfl) ?_) | refine g_cond_f rfl (rfl) ?_
  repeat (first | refine g_endt ?_ | refine g_end ?_ | refine g_then ?_ | refine g_in_normal ?_ | refine g_then_ret ?_ | refine g_in_ret ?_ | refine g_then_exit ?_ | refine g_in_exit rfl ?_ | refine g_in_exit_ne (by decide) ?_ | refine g_seq ?_ | refine g_region ?_ | refine g_block ?_ | refine g_ret ?_ | refine g_return_n ?_ | refine g_exit ?_ | refine g_skip ?_)
  refine g_draw [10, 11] [0,1,2,3,4,5,6,7,8,9,10,11,12] [SetASI p ys, cellsB m #[.pointer (some ⟨p, 0, none⟩)] 115, cellsB b k.val.cells 31] mixed rfl ?_
  refine ob_q rfl rfl ⟨_, fun X Q h => o_move (g_end (h _ _ ⟨rfl, rfl⟩)), ?_⟩
  refine ob_q rfl rfl ⟨_, fun X Q h => o_nil rfl (g_end (h _ _ ⟨rfl, rfl⟩)), ?_⟩
  refine ob_q rfl rfl ⟨_, fun X Q h => o_field rfl (g_end (h _ _ ⟨rfl, rfl⟩)), ?_⟩
  refine ob_q rfl rfl ⟨_, fun X Q h => o_load1 (v := .pointer (some ⟨p, 0, none⟩)) rfl rfl (g_end (h _ _ ⟨rfl, rfl⟩)), ?_⟩
  refine ob_q rfl rfl ⟨_, fun X Q h => o_loadN (v := k.val) rfl rfl rfl (g_end (h _ _ ⟨rfl, rfl⟩)), ?_⟩
  refine ob_q rfl rfl ⟨_, fun X Q h => o_call (atSI_spec k) rfl rfl <| by rintro _ _ ⟨rfl, rfl⟩; exact (g_end (h _ _ ⟨rfl, rfl⟩)), ?_⟩
  refine ob_q rfl rfl ⟨_, fun X Q h => o_call (GetMSI_spec p ys ⟨k, PgSI.zero.v⟩ hs hl) rfl rfl <| by rintro _ _ ⟨rfl, rfl⟩; exact (g_end (h _ _ ⟨rfl, rfl⟩)), ?_⟩
  refine ob_q rfl rfl ⟨_, fun X Q h => o_move (g_end (h _ _ ⟨rfl, rfl⟩)), ?_⟩
  refine ob_q rfl rfl ⟨_, fun X Q h => o_extract rfl rfl (g_end (h _ _ ⟨rfl, rfl⟩)), ?_⟩
  refine ob_q rfl rfl ⟨_, fun X Q h => o_extract rfl rfl (g_end (h _ _ ⟨rfl, rfl⟩)), ?_⟩
  generalize ho : getM PgSI.cmp ys ⟨k, PgSI.zero.v⟩ = o
  refine ob_l rfl rfl fun Qz hz => o_alloc fun r => g_end (hz _ _ ⟨_, ob_fin, ?_⟩)
  clear hz Qz
  refine ob_l rfl rfl fun Qz hz => o_store (v := (o.getD PgSI.zero).val) rfl rfl rfl rfl rfl <| g_end (hz _ _ ⟨_, ob_fin, ?_⟩)
  clear hz Qz
  refine ob_q rfl rfl ⟨_, fun X Q h => o_assign (g_end (h _ _ ⟨rfl, rfl⟩)), ?_⟩
  refine ob_nil ?_
  refine G.norm r (o.getD PgSI.zero).val.cells rfl ?_
  generalize o.getD PgSI.zero = y
  repeat (first | refine g_endt ?_ | refine g_end ?_ | refine g_then ?_ | refine g_in_normal ?_ | refine g_then_ret ?_ | refine g_in_ret ?_ | refine g_then_exit ?_ | refine g_in_exit rfl ?_ | refine g_in_exit_ne (by decide) ?_ | refine g_seq ?_ | refine g_region ?_ | refine g_block ?_ | refine g_ret ?_ | refine g_return_n ?_ | refine g_exit ?_ | refine g_skip ?_)
  refine o_field rfl ?_
  refine o_load1 (v := PgSI.vval y.v) rfl rfl ?_
  refine o_move ?_
  refine o_assign ?_
  refine o_assign ?_
  refine g_endt ?_
  refine shutMSI m p ys ?_
  repeat (first | refine g_endt ?_ | refine g_end ?_ | refine g_then ?_ | refine g_in_normal ?_ | refine g_then_ret ?_ | refine g_in_ret ?_ | refine g_then_exit ?_ | refine g_in_exit rfl ?_ | refine g_in_exit_ne (by decide) ?_ | refine g_seq ?_ | refine g_region ?_ | refine g_block ?_ | refine g_ret ?_ | refine g_return_n ?_ | refine g_exit ?_ | refine g_skip ?_)
  exact ret2 (K := [MapASI m ys]) rfl (resT rfl) (resT rfl) ⟨rfl, rfl⟩
end Go.Proofs.Ytonjhakjnopbjaa
/- An ordered map's functions, for one type of keys and one of values: a key more that was not there. -/
namespace Go.Proofs.Ytonjhakjnopbjaa
open Go Go.Sl
attribute [local irreducible] Code.wpIn roundPost bodyPostM runL Ret Meets Begin

theorem PutNMSI_spec (m : Nat) (ys : List PgSI) (k : SymD) (v : Int) (hs : Srt PgSI.cmp ys) (hl : ys.length < 999999999) (hn : hasC PgSI.cmp ys ⟨k, v⟩ = false) : Ctr Try.prog 71 [.pointer (some ⟨m, 0, none⟩), k.val, PgSI.vval v] [MapASI m ys]
    (fun u M => u = .bool true ∧ M = [MapASI m (insC PgSI.cmp ys ⟨k, v⟩)]) := (PutMSI_spec m ys k v hs hl).mono fun u M ⟨i, there, h1, h2, h3⟩ => by
  have e := hasC_of h3
  rw [hn] at e
  subst e
  have h4 := insC_of PgSI.lin hs h3
  rw [h1, h2, ← h4]
  exact ⟨rfl, rfl⟩
theorem GetNMSI_spec (m : Nat) (ys : List PgSI) (k : SymD) (hs : Srt PgSI.cmp ys) (hl : ys.length < 1000000000) {o : Option PgSI} (ho : getM PgSI.cmp ys ⟨k, PgSI.zero.v⟩ = o) : Ctr Try.prog 64 [.pointer (some ⟨m, 0, none⟩), k.val] [MapASI m ys]
    (fun u M => u = .tuple #[PgSI.vval (o.getD PgSI.zero).v, .bool o.isSome] ∧ M = [MapASI m ys]) := ho ▸ GetMapSI_spec m ys k hs hl
end Go.Proofs.Ytonjhakjnopbjaa
/- An ordered set's functions, for one type of members: told in order; made; how many; at a place. -/
namespace Go.Proofs.Ytonjhakjnopbjaa
open Go Go.Sl
attribute [local irreducible] Code.wpIn roundPost bodyPostM runL Ret Meets Begin

theorem fromSS_spec (p k : Nat) (ys : List SymD) (hl : ys.length < 1000000000) (hk : k ≤ ys.length) (l : Nat) (J Jx : List SymD → List SProp) {M : List SProp} [tk : Take1 (J []) (SetASS p ys) M]
    (hy : ∀ pre x, (pre ++ [x]) <+: ys.drop k → Sl.Yields Try.prog l (SymD.enc' x) (J pre) (J (pre ++ [x])) (Jx (pre ++ [x]))) :
    Ctr Try.prog 91 [.pointer (some ⟨p, 0, none⟩), .int .i64 (k : Int), .func (.yield l) #[] #[]] (J []) (fun _ L' => L' = J (ys.drop k) ∨ ∃ pre, pre <+: ys.drop k ∧ L' = Jx pre) := by
  refine spec_of Try.func91 rfl Try.ntmps91 rfl fun w0 F => ?_
  repeat (first | refine g_endt ?_ | refine g_end ?_ | refine g_then ?_ | refine g_in_normal ?_ | refine g_then_ret ?_ | refine g_in_ret ?_ | refine g_then_exit ?_ | refine g_in_exit rfl ?_ | refine g_in_exit_ne (by decide) ?_ | refine g_seq ?_ | refine g_region ?_ | refine g_block ?_ | refine g_ret ?_ | refine g_return_n ?_ | refine g_exit ?_ | refine g_skip ?_)
  refine openSS p ys fun S c b => ?_
  refine o_move ?_
  refine o_nil rfl ?_
  refine o_field rfl ?_
  refine o_store (v := .bool true) rfl rfl rfl rfl rfl ?_
  refine g_endt ?_
  refine G.norm p #[.slice S ys.length c, .bool true] rfl ?_
  refine G.bring [row 31 SymD.enc 3 b S c ys] ?_
  refine G.see1 ?_
  repeat (first | refine g_endt ?_ | refine g_end ?_ | refine g_then ?_ | refine g_in_normal ?_ | refine g_then_ret ?_ | refine g_in_ret ?_ | refine g_then_exit ?_ | refine g_in_exit rfl ?_ | refine g_in_exit_ne (by decide) ?_ | refine g_seq ?_ | refine g_region ?_ | refine g_block ?_ | refine g_ret ?_ | refine g_return_n ?_ | refine g_exit ?_ | refine g_skip ?_)
  refine o_move ?_
  refine o_nil rfl ?_
  refine o_field rfl ?_
  refine o_load1 (v := .slice S ys.length c) rfl rfl ?_
  refine o_assign ?_
  refine g_endt ?_
  refine G.dup (psl SymD.enc 3 S ys) ?_
  refine shutTSS p ys S c rfl ?_
  repeat (first | refine g_endt ?_ | refine g_end ?_ | refine g_then ?_ | refine g_in_normal ?_ | refine g_then_ret ?_ | refine g_in_ret ?_ | refine g_then_exit ?_ | refine g_in_exit rfl ?_ | refine g_in_exit_ne (by decide) ?_ | refine g_seq ?_ | refine g_region ?_ | refine g_block ?_ | refine g_ret ?_ | refine g_return_n ?_ | refine g_exit ?_ | refine g_skip ?_)
  refine o_move ?_
  refine o_assign ?_
  first | refine g_endt ?_ | refine g_end ?_
  repeat (first | refine g_endt ?_ | refine g_end ?_ | refine g_then ?_ | refine g_in_normal ?_ | refine g_then_ret ?_ | refine g_in_ret ?_ | refine g_then_exit ?_ | refine g_in_exit rfl ?_ | refine g_in_exit_ne (by decide) ?_ | refine g_seq ?_ | refine g_region ?_ | refine g_block ?_ | refine g_ret ?_ | refine g_return_n ?_ | refine g_exit ?_ | refine g_skip ?_)
  refine g_loop (σ := {i : Nat // k ≤ i ∧ i ≤ ys.length}) (S := fun i => [(2, .func (.yield l) #[] #[]), (6, .slice S ys.length c), (7, .int .i64 (i.1 : Int))])
    (H := fun i => psl SymD.enc 3 S ys :: J ((ys.drop k).take (i.1 - k))) (μ := fun i => ys.length - i.1) (s0 := ⟨k, Nat.le_refl _, hk⟩) (Sat.mem ⟨rfl, rfl, rfl, trivial⟩)
    (t := by simp only [Nat.sub_self, List.take_zero]; exact Take.setback) ?_
  rintro ⟨i, h1, h2⟩ ρ'
  dsimp only at h1 h2 ⊢
  repeat (first | refine g_endt ?_ | refine g_end ?_ | refine g_then ?_ | refine g_in_normal ?_ | refine g_then_ret ?_ | refine g_in_ret ?_ | refine g_then_exit ?_ | refine g_in_exit rfl ?_ | refine g_in_exit_ne (by decide) ?_ | refine g_seq ?_ | refine g_region ?_ | refine g_block ?_ | refine g_ret ?_ | refine g_return_n ?_ | refine g_exit ?_ | refine g_skip ?_)
  refine o_move ?_
  refine o_move ?_
  refine o_len rfl rfl ?_
  refine o_lss rfl rfl ?_
  first | refine g_endt ?_ | refine g_end ?_
  by_cases h : i < ys.length
  · first | refine g_seq (g_cond_t rfl (by simpa using h) ?_) | refine g_cond_t rfl (by simpa using h) ?_
    repeat (first | refine g_endt ?_ | refine g_end ?_ | refine g_then ?_ | refine g_in_normal ?_ | refine g_then_ret ?_ | refine g_in_ret ?_ | refine g_then_exit ?_ | refine g_in_exit rfl ?_ | refine g_in_exit_ne (by decide) ?_ | refine g_seq ?_ | refine g_region ?_ | refine g_block ?_ | refine g_ret ?_ | refine g_return_n ?_ | refine g_exit ?_ | refine g_skip ?_)
    obtain ⟨y, hz⟩ : ∃ y, ys[i]? = some y := ⟨_, List.getElem?_eq_getElem h⟩
    have ht : (ys.drop k).take (i + 1 - k) = (ys.drop k).take (i - k) ++ [y] := by
      rw [show i + 1 - k = (i - k) + 1 by omega]
      exact take_snocPSS _ _ _ (by rw [List.getElem?_drop, show k + (i - k) = i by omega, hz])
    have hp : ((ys.drop k).take (i - k) ++ [y]) <+: ys.drop k := ⟨(ys.drop k).drop (i + 1 - k), by rw [← ht, List.take_append_drop]⟩
    refine o_move ?_
    refine o_move ?_
    refine o_move ?_
    refine o_indexR (i := i) rfl rfl rfl h rfl rfl ?_
    refine o_loadE (enc := SymD.enc) rfl rfl hz ?_
    refine o_yield (hy _ y hp) rfl rfl ?_ ?_
    · refine o_not rfl ?_
      refine g_endt ?_
      refine g_cond_f rfl rfl ?_
      repeat (first | refine g_endt ?_ | refine g_end ?_ | refine g_then ?_ | refine g_in_normal ?_ | refine g_then_ret ?_ | refine g_in_ret ?_ | refine g_then_exit ?_ | refine g_in_exit rfl ?_ | refine g_in_exit_ne (by decide) ?_ | refine g_seq ?_ | refine g_region ?_ | refine g_block ?_ | refine g_ret ?_ | refine g_return_n ?_ | refine g_exit ?_ | refine g_skip ?_)
      refine o_move ?_
      refine o_add (c := ((i + 1 : Nat) : Int)) rfl rfl (by omega) (by omega) (by omega) ?_
      refine o_assign ?_
      refine g_endt ?_
      repeat (first | refine g_endt ?_ | refine g_end ?_ | refine g_then ?_ | refine g_in_normal ?_ | refine g_then_ret ?_ | refine g_in_ret ?_ | refine g_then_exit ?_ | refine g_in_exit rfl ?_ | refine g_in_exit_ne (by decide) ?_ | refine g_seq ?_ | refine g_region ?_ | refine g_block ?_ | refine g_ret ?_ | refine g_return_n ?_ | refine g_exit ?_ | refine g_skip ?_)
      exact g_meets ⟨i + 1, by omega, h⟩ (by show ys.length - (i + 1) < ys.length - i; omega) (Sat.mem ⟨rfl, rfl, rfl, trivial⟩) (t := by rw [ht]; infer_instance)
    · refine o_not rfl ?_
      refine g_endt ?_
      refine g_cond_t rfl rfl ?_
      repeat (first | refine g_endt ?_ | refine g_end ?_ | refine g_then ?_ | refine g_in_normal ?_ | refine g_then_ret ?_ | refine g_in_ret ?_ | refine g_then_exit ?_ | refine g_in_exit rfl ?_ | refine g_in_exit_ne (by decide) ?_ | refine g_seq ?_ | refine g_region ?_ | refine g_block ?_ | refine g_ret ?_ | refine g_return_n ?_ | refine g_exit ?_ | refine g_skip ?_)
      exact ret0 rfl (.inr ⟨_, hp, rfl⟩)
  · first | refine g_seq (g_cond_f rfl (by simpa using h) ?_) | refine g_cond_f rfl (by simpa using h) ?_
    repeat (first | refine g_endt ?_ | refine g_end ?_ | refine g_then ?_ | refine g_in_normal ?_ | refine g_then_ret ?_ | refine g_in_ret ?_ | refine g_then_exit ?_ | refine g_in_exit rfl ?_ | refine g_in_exit_ne (by decide) ?_ | refine g_seq ?_ | refine g_region ?_ | refine g_block ?_ | refine g_ret ?_ | refine g_return_n ?_ | refine g_exit ?_ | refine g_skip ?_)
    have he : (ys.drop k).take (i - k) = ys.drop k := List.take_of_length_le (by simp; omega)
    exact ret0 (K := J ((ys.drop k).take (i - k))) rfl (.inl (by rw [he]))
theorem All1SS_iter (p b : Nat) (ys : List SymD) (hl : ys.length < 1000000000) (J0 : List SProp) {M : List SProp} [tk : Take1 J0 (SetASS p ys) M] [HasP J0 (pblk b (.cells #[.pointer (some ⟨p, 0, none⟩)] 103 (0, 0)))] :
    Iter Try.prog 90 [.pointer (some ⟨b, 0, none⟩)] SymD.enc' ys J0 := by
  intro l J Jx hJ hy
  subst hJ
  refine spec_of Try.func90 rfl Try.ntmps90 rfl fun w0 F => ?_
  refine G.dup (pblk b (.cells #[.pointer (some ⟨p, 0, none⟩)] 103 (0, 0))) ?_
  repeat (first | refine g_endt ?_ | refine g_end ?_ | refine g_then ?_ | refine g_in_normal ?_ | refine g_then_ret ?_ | refine g_in_ret ?_ | refine g_then_exit ?_ | refine g_in_exit rfl ?_ | refine g_in_exit_ne (by decide) ?_ | refine g_seq ?_ | refine g_region ?_ | refine g_block ?_ | refine g_ret ?_ | refine g_return_n ?_ | refine g_exit ?_ | refine g_skip ?_)
  refine o_load1 (v := .pointer (some ⟨p, 0, none⟩)) rfl rfl ?_
  refine o_pneq rfl ?_
  refine g_endt ?_
  first | refine g_seq (g_cond_t rfl (rfl) ?_) | refine g_cond_t rfl (rfl) ?_
  repeat (first | refine g_endt ?_ | refine g_end ?_ | refine g_then ?_ | refine g_in_normal ?_ | refine g_then_ret ?_ | refine g_in_ret ?_ | refine g_then_exit ?_ | refine g_in_exit rfl ?_ | refine g_in_exit_ne (by decide) ?_ | refine g_seq ?_ | refine g_region ?_ | refine g_block ?_ | refine g_ret ?_ | refine g_return_n ?_ | refine g_exit ?_ | refine g_skip ?_)
  refine o_load1 (v := .pointer (some ⟨p, 0, none⟩)) rfl rfl ?_
  refine o_move ?_
  refine o_call (fromSS_spec p 0 ys hl (Nat.zero_le _) l J Jx (by simpa using hy)) rfl rfl ?_
  intro v L' hR
  repeat (first | refine g_endt ?_ | refine g_end ?_ | refine g_then ?_ | refine g_in_normal ?_ | refine g_then_ret ?_ | refine g_in_ret ?_ | refine g_then_exit ?_ | refine g_in_exit rfl ?_ | refine g_in_exit_ne (by decide) ?_ | refine g_seq ?_ | refine g_region ?_ | refine g_block ?_ | refine g_ret ?_ | refine g_return_n ?_ | refine g_exit ?_ | refine g_skip ?_)
  exact ret0 (K := L') rfl (by simpa using hR)
theorem AllSS_spec (p : Nat) : Ctr Try.prog 75 [.pointer (some ⟨p, 0, none⟩)] []
    (fun v M => ∃ b, v = .func (.func 90) #[] #[.pointer (some ⟨b, 0, none⟩)] ∧ M = [pblk b (.cells #[.pointer (some ⟨p, 0, none⟩)] 103 (0, 0))]) := by
  refine spec_of Try.func75 rfl Try.ntmps75 rfl fun w0 F => ?_
  repeat (first | refine g_endt ?_ | refine g_end ?_ | refine g_then ?_ | refine g_in_normal ?_ | refine g_then_ret ?_ | refine g_in_ret ?_ | refine g_then_exit ?_ | refine g_in_exit rfl ?_ | refine g_in_exit_ne (by decide) ?_ | refine g_seq ?_ | refine g_region ?_ | refine g_block ?_ | refine g_ret ?_ | refine g_return_n ?_ | refine g_exit ?_ | refine g_skip ?_)
  refine o_boxc #[.pointer (some ⟨p, 0, none⟩)] rfl rfl fun b => ?_
  refine G.freeze ?_
  refine o_assign ?_
  first | refine g_endt ?_ | refine g_end ?_
  repeat (first | refine g_endt ?_ | refine g_end ?_ | refine g_then ?_ | refine g_in_normal ?_ | refine g_then_ret ?_ | refine g_in_ret ?_ | refine g_then_exit ?_ | refine g_in_exit rfl ?_ | refine g_in_exit_ne (by decide) ?_ | refine g_seq ?_ | refine g_region ?_ | refine g_block ?_ | refine g_ret ?_ | refine g_return_n ?_ | refine g_exit ?_ | refine g_skip ?_)
  refine o_func ?_
  refine o_assign ?_
  first | refine g_endt ?_ | refine g_end ?_
  repeat (first | refine g_endt ?_ | refine g_end ?_ | refine g_then ?_ | refine g_in_normal ?_ | refine g_then_ret ?_ | refine g_in_ret ?_ | refine g_then_exit ?_ | refine g_in_exit rfl ?_ | refine g_in_exit_ne (by decide) ?_ | refine g_seq ?_ | refine g_region ?_ | refine g_block ?_ | refine g_ret ?_ | refine g_return_n ?_ | refine g_exit ?_ | refine g_skip ?_)
  exact ret1 rfl (resT rfl) ⟨b, rfl, rfl⟩
end Go.Proofs.Ytonjhakjnopbjaa
/- The levels of goals, and of what is reached: the walk. -/
namespace Go.Proofs.Ytonjhakjnopbjaa
open Go Go.Sl
attribute [local irreducible] Code.wpIn roundPost bodyPostM runL Ret Meets MeetsD Begin

theorem NewSSl_spec (A : Option Addr) (n c : Nat) (gs : List SymD) (hg : gs.length = n) (hl : n ≤ 100000) : Ctr Try.prog 73 [.slice A n c] [psl encS 3 A gs]
    (fun v M => ∃ p, v = .pointer (some ⟨p, 0, none⟩) ∧ M = [SetASS p (gs.foldl (insC SymD.cmp) [])]) := by
  have hs : ∀ i, Srt SymD.cmp ((gs.take i).foldl (insC SymD.cmp) []) ∧ ((gs.take i).foldl (insC SymD.cmp) []).length ≤ i := fun i => by
    induction i with
    | zero => exact ⟨by simpa using Srt.nil, by simp⟩
    | succ i ih =>
      rw [List.take_add_one, List.foldl_append]
      cases gs[i]? with
      | none => exact ⟨by simpa using ih.1, by have := ih.2; simp; omega⟩
      | some g =>
        have := length_insC_le (f := SymD.cmp) ((gs.take i).foldl (insC SymD.cmp) []) g
        have := ih.2
        exact ⟨by simpa using ih.1.insC linSym g, by simp; omega⟩
  refine spec_of Try.func73 rfl Try.ntmps73 rfl fun w0 F => ?_
  -- ponder/order.New[ponder/api.Sym]
  repeat (first | refine g_endt ?_ | refine g_end ?_ | refine g_then ?_ | refine g_in_normal ?_ | refine g_then_ret ?_ | refine g_in_ret ?_ | refine g_then_exit ?_ | refine g_in_exit rfl ?_ | refine g_in_exit_ne (by decide) ?_ | refine g_seq ?_ | refine g_region ?_ | refine g_block ?_ | refine g_ret ?_ | refine g_return_n ?_ | refine g_exit ?_ | refine g_skip ?_)
  refine o_assign ?_
  first | refine g_endt ?_ | refine g_end ?_
  repeat (first | refine g_endt ?_ | refine g_end ?_ | refine g_then ?_ | refine g_in_normal ?_ | refine g_then_ret ?_ | refine g_in_ret ?_ | refine g_then_exit ?_ | refine g_in_exit rfl ?_ | refine g_in_exit_ne (by decide) ?_ | refine g_seq ?_ | refine g_region ?_ | refine g_block ?_ | refine g_ret ?_ | refine g_return_n ?_ | refine g_exit ?_ | refine g_skip ?_)
  refine o_build (.agg #[.slice none 0 0, .bool false]) (fun w => by kernel_rfl) ?_
  refine o_boxc #[.slice none 0 0, .bool false] rfl rfl fun p => ?_
  refine o_assign ?_
  first | refine g_endt ?_ | refine g_end ?_
  refine NilSS_set p ?_
  repeat (first | refine g_endt ?_ | refine g_end ?_ | refine g_then ?_ | refine g_in_normal ?_ | refine g_then_ret ?_ | refine g_in_ret ?_ | refine g_then_exit ?_ | refine g_in_exit rfl ?_ | refine g_in_exit_ne (by decide) ?_ | refine g_seq ?_ | refine g_region ?_ | refine g_block ?_ | refine g_ret ?_ | refine g_return_n ?_ | refine g_exit ?_ | refine g_skip ?_)
  refine o_move ?_
  refine o_len rfl rfl ?_
  refine o_move ?_
  first | refine g_endt ?_ | refine g_end ?_
  repeat (first | refine g_endt ?_ | refine g_end ?_ | refine g_then ?_ | refine g_in_normal ?_ | refine g_then_ret ?_ | refine g_in_ret ?_ | refine g_then_exit ?_ | refine g_in_exit rfl ?_ | refine g_in_exit_ne (by decide) ?_ | refine g_seq ?_ | refine g_region ?_ | refine g_block ?_ | refine g_ret ?_ | refine g_return_n ?_ | refine g_exit ?_ | refine g_skip ?_)
  refine g_loop (σ := {i : Nat // i ≤ n}) (S := fun i => [(3, .pointer (some ⟨p, 0, none⟩)), (8, .slice A n c), (9, .int .i64 (n : Int)), (10, .int .i64 (i.1 : Int))]) (H := fun i => [SetASS p ((gs.take i.1).foldl (insC SymD.cmp) []), psl encS 3 A gs]) (μ := fun i => n - i.1)
    (s0 := ⟨0, Nat.zero_le _⟩) (Sat.mem ⟨rfl, rfl, rfl, rfl, trivial⟩) (t := (inferInstance : Take _ [SetASS p [], psl encS 3 A gs] _)) ?_
  rintro ⟨i, hi⟩ ρ'
  dsimp only at hi ⊢
  obtain ⟨s1, s2⟩ := hs i
  repeat (first | refine g_endt ?_ | refine g_end ?_ | refine g_then ?_ | refine g_in_normal ?_ | refine g_then_ret ?_ | refine g_in_ret ?_ | refine g_then_exit ?_ | refine g_in_exit rfl ?_ | refine g_in_exit_ne (by decide) ?_ | refine g_seq ?_ | refine g_region ?_ | refine g_block ?_ | refine g_ret ?_ | refine g_return_n ?_ | refine g_exit ?_ | refine g_skip ?_)
  refine o_lss rfl rfl ?_
  first | refine g_endt ?_ | refine g_end ?_
  by_cases h : i < n
  · first | refine g_seq (g_cond_t rfl (by first | rfl | (simp; done) | (simp; omega) | (simp; assumption)) ?_) | refine g_cond_t rfl (by first | rfl | (simp; done) | (simp; omega) | (simp; assumption)) ?_
    have hi' : i < gs.length := by omega
    obtain ⟨x, hx⟩ : ∃ x, gs[i]? = some x := ⟨_, List.getElem?_eq_getElem hi'⟩
    have e : (gs.take (i + 1)).foldl (insC SymD.cmp) [] = insC SymD.cmp ((gs.take i).foldl (insC SymD.cmp) []) x := by rw [List.take_add_one, hx, List.foldl_append]; rfl
    repeat (first | refine g_endt ?_ | refine g_end ?_ | refine g_then ?_ | refine g_in_normal ?_ | refine g_then_ret ?_ | refine g_in_ret ?_ | refine g_then_exit ?_ | refine g_in_exit rfl ?_ | refine g_in_exit_ne (by decide) ?_ | refine g_seq ?_ | refine g_region ?_ | refine g_block ?_ | refine g_ret ?_ | refine g_return_n ?_ | refine g_exit ?_ | refine g_skip ?_)
    refine o_indexR (ys := gs) (i := i) rfl rfl rfl hi' hg rfl ?_
    refine o_loadE (ys := gs) rfl rfl hx ?_
    refine o_alloc fun d => ?_
    refine o_store (v := x.val) rfl rfl rfl rfl rfl ?_
    first | refine g_endt ?_ | refine g_end ?_
    refine G.norm d x.val.cells rfl ?_
    repeat (first | refine g_endt ?_ | refine g_end ?_ | refine g_then ?_ | refine g_in_normal ?_ | refine g_then_ret ?_ | refine g_in_ret ?_ | refine g_then_exit ?_ | refine g_in_exit rfl ?_ | refine g_in_exit_ne (by decide) ?_ | refine g_seq ?_ | refine g_region ?_ | refine g_block ?_ | refine g_ret ?_ | refine g_return_n ?_ | refine g_exit ?_ | refine g_skip ?_)
    refine o_move ?_
    refine o_loadN (v := x.val) rfl rfl rfl ?_
    refine o_call (PutCSS_spec p ((gs.take i).foldl (insC SymD.cmp) []) x s1 (by omega)) rfl rfl ?_
    rintro _ _ ⟨rfl, rfl⟩
    first | refine g_endt ?_ | refine g_end ?_
    rw [← e]
    repeat (first | refine g_endt ?_ | refine g_end ?_ | refine g_then ?_ | refine g_in_normal ?_ | refine g_then_ret ?_ | refine g_in_ret ?_ | refine g_then_exit ?_ | refine g_in_exit rfl ?_ | refine g_in_exit_ne (by decide) ?_ | refine g_seq ?_ | refine g_region ?_ | refine g_block ?_ | refine g_ret ?_ | refine g_return_n ?_ | refine g_exit ?_ | refine g_skip ?_)
    refine o_add (c := ((i + 1 : Nat) : Int)) rfl rfl (by omega) (by omega) (by omega) ?_
    refine o_move ?_
    first | refine g_endt ?_ | refine g_end ?_
    repeat (first | refine g_endt ?_ | refine g_end ?_ | refine g_then ?_ | refine g_in_normal ?_ | refine g_then_ret ?_ | refine g_in_ret ?_ | refine g_then_exit ?_ | refine g_in_exit rfl ?_ | refine g_in_exit_ne (by decide) ?_ | refine g_seq ?_ | refine g_region ?_ | refine g_block ?_ | refine g_ret ?_ | refine g_return_n ?_ | refine g_exit ?_ | refine g_skip ?_)
    exact g_meets (⟨i + 1, h⟩) (by first | exact trivial | (dsimp only; omega)) (Sat.mem (by repeat (first | exact trivial | refine And.intro rfl ?_)))
  · first | refine g_seq (g_cond_f rfl (by simp; omega) ?_) | refine g_cond_f rfl (by simp; omega) ?_
    rw [show gs.take i = gs from List.take_of_length_le (by omega)]
    repeat (first | refine g_endt ?_ | refine g_end ?_ | refine g_then ?_ | refine g_in_normal ?_ | refine g_then_ret ?_ | refine g_in_ret ?_ | refine g_then_exit ?_ | refine g_in_exit rfl ?_ | refine g_in_exit_ne (by decide) ?_ | refine g_seq ?_ | refine g_region ?_ | refine g_block ?_ | refine g_ret ?_ | refine g_return_n ?_ | refine g_exit ?_ | refine g_skip ?_)
    refine o_move ?_
    refine o_assign ?_
    first | refine g_endt ?_ | refine g_end ?_
    repeat (first | refine g_endt ?_ | refine g_end ?_ | refine g_then ?_ | refine g_in_normal ?_ | refine g_then_ret ?_ | refine g_in_ret ?_ | refine g_then_exit ?_ | refine g_in_exit rfl ?_ | refine g_in_exit_ne (by decide) ?_ | refine g_seq ?_ | refine g_region ?_ | refine g_block ?_ | refine g_ret ?_ | refine g_return_n ?_ | refine g_exit ?_ | refine g_skip ?_)
    exact ret1 (K := [SetASS p (gs.foldl (insC SymD.cmp) [])]) rfl (resT rfl) ⟨p, rfl, rfl⟩

/-! ### What holds on the way -/
theorem srt_len {α : Type} {f : α → α → Int} (lf : LinCmp f) : ∀ {l m : List α}, Srt f l → (∀ x ∈ l, x ∈ m) → l.length ≤ m.length
  | [], _, _, _ => Nat.zero_le _
  | y :: l, m, hs, h => by
    obtain ⟨s, t, rfl⟩ := List.append_of_mem (h y List.mem_cons_self)
    have ih := srt_len lf (m := s ++ t) hs.tail fun x hx => by
      have hne : x ≠ y := fun e => by
        have h1 := hs.head x hx
        have h2 := lf.refl y
        rw [e] at h1
        omega
      have := h x (List.mem_cons_of_mem _ hx)
      simp only [List.mem_append, List.mem_cons] at this ⊢
      rcases this with h | h | h
      · exact .inl h
      · exact absurd h hne
      · exact .inr h
    simp only [List.length_append, List.length_cons] at ih ⊢
    omega
theorem tab_len {gs : List SymD} {xs : List ElemD} {ys : List PgSI} {f : SymD → Int} (ht : TabP ys f) (h : ∀ s, f s ≠ 0 → LevIs gs xs s (f s)) : ys.length ≤ gs.length + xs.length := by
  have h1 := srt_len PgSI.lin (m := (gs ++ xs.map ElemD.value).map fun s => (⟨s, f s⟩ : PgSI)) ht.srt fun p hp => by
    have hv := ht.mem hp
    have hnz := ht.nz p hp
    refine List.mem_map.2 ⟨p.k, ?_, by rw [hv]⟩
    obtain ⟨i, g, _, hg, hr, _⟩ := h p.k (by rw [hv]; exact hnz)
    cases hr with
    | base => exact List.mem_append_left _ (List.mem_of_getElem? hg)
    | @step a b _ he _ =>
      obtain ⟨e, hel, _, hv, _⟩ := he
      exact List.mem_append_right _ (List.mem_map.2 ⟨e, hel, hv⟩)
  simpa using h1
structure RunI (gs : List SymD) (xs : List ElemD) (i k : Nat) (cur : Option SymD) (pre todo : List SymD) (ys : List PgSI) (f : SymD → Int) : Prop where
  work : Work gs xs i todo cur f
  tab : TabP ys f
  pre : ∀ v ∈ pre, v.kind = 1 → f v ≠ 0
  mu : todo.length + (gs.length + xs.length - ys.length) ≤ k
theorem RunI.len {gs : List SymD} {xs : List ElemD} {i k : Nat} {cur : Option SymD} {pre todo : List SymD} {ys : List PgSI} {f : SymD → Int} (h : RunI gs xs i k cur pre todo ys f) : ys.length ≤ gs.length + xs.length := tab_len h.tab h.work.snd
def RunP (gs : List SymD) (xs : List ElemD) (r m z i k : Nat) (cur : Option SymD) (pre : List SymD) : SProp :=
  ex fun t : (Option Addr × Nat) × List SymD × List PgSI × (SymD → Int) => sl [pu (RunI gs xs i k cur pre t.2.1 t.2.2.1 t.2.2.2), qsl 31 encS 3 t.1.1 t.1.2 t.2.1, cellsB r #[.slice t.1.1 t.2.1.length t.1.2] 58, MapASI m t.2.2.1, SetASS z (t.2.2.1.map PgSI.k)]
section
variable {w0 : World} {A : SProp} {L M : List SProp} {Φ : World → Prop}
theorem openR {gs : List SymD} {xs : List ElemD} (r m z i k : Nat) (cur : Option SymD) (pre : List SymD) [tk : Take1 L (RunP gs xs r m z i k cur pre) M]
    (h : ∀ S c todo ys f, RunI gs xs i k cur pre todo ys f → G w0 A (qsl 31 encS 3 S c todo :: cellsB r #[.slice S todo.length c] 58 :: MapASI m ys :: SetASS z (ys.map PgSI.k) :: M) Φ) : G w0 A L Φ :=
  G.perm tk.perm (G.ex fun ⟨⟨S, c⟩, todo, ys, f⟩ => G.open_sl (G.pu fun hi => h S c todo ys f hi))
theorem shutR {gs : List SymD} {xs : List ElemD} (r m z i k : Nat) (cur : Option SymD) (pre : List SymD) (S : Option Addr) (c : Nat) (todo : List SymD) (ys : List PgSI) (f : SymD → Int) (hi : RunI gs xs i k cur pre todo ys f) {n : Nat} (hn : todo.length = n) {zs : List SymD} (hz : zs = ys.map PgSI.k)
    [tk : Take L [qsl 31 encS 3 S c todo, cellsB r #[.slice S n c] 58, MapASI m ys, SetASS z zs] M] (h : G w0 A (RunP gs xs r m z i k cur pre :: M) Φ) : G w0 A L Φ := by
  subst hn hz
  exact G.perm tk.perm (G.pu_in hi (G.ent (L' := RunP gs xs r m z i k cur pre :: M)
    ((sl_append_to [pu (RunI gs xs i k cur pre todo ys f), qsl 31 encS 3 S c todo, cellsB r #[.slice S todo.length c] 58, MapASI m ys, SetASS z (ys.map PgSI.k)] M).trans (Ent.star (show Ent _ (RunP gs xs r m z i k cur pre) from fun _ _ x => ⟨((S, c), todo, ys, f), x⟩) (Ent.refl _))) h))
end
theorem GetLv_spec (m : Nat) (ys : List PgSI) (f : SymD → Int) (s : SymD) (ht : TabP ys f) (hl : ys.length < 1000000000) : Ctr Try.prog 64 [.pointer (some ⟨m, 0, none⟩), s.val] [MapASI m ys]
    (fun u M => u = .tuple #[.int .i64 (f s), .bool (decide (f s ≠ 0))] ∧ M = [MapASI m ys]) := (GetMapSI_spec m ys s ht.srt hl).mono fun u M ⟨h1, h2⟩ => by
  refine ⟨?_, h2⟩
  rw [h1, ← ht.all s, getM_isSome]
  have := ht.has s PgSI.zero.v
  rw [← ht.all s] at this
  rw [show hasC PgSI.cmp ys ⟨s, PgSI.zero.v⟩ = decide (lvl ys s ≠ 0) by rw [Bool.eq_iff_iff, decide_eq_true_eq]; exact this]
  rfl
theorem foldl_take_succ {gs : List SymD} {i : Nat} {x : SymD} (hx : gs[i]? = some x) : (gs.take (i + 1)).foldl (insC SymD.cmp) [] = insC SymD.cmp ((gs.take i).foldl (insC SymD.cmp) []) x := by
  rw [List.take_add_one, hx, List.foldl_append]; rfl
theorem insC_old {α : Type} {f : α → α → Int} {ys : List α} {x : α} (h : hasC f ys x = true) : insC f ys x = ys := by
  unfold insC
  exact if_pos h
end Go.Proofs.Ytonjhakjnopbjaa
/- What an ordered map is behind a Put: its keys, its pages. Plain law. -/
namespace Go.Proofs.Ytonjhakjnopbjaa
open Go Go.Sl

theorem PgSI.hasC_keys (ys : List PgSI) (k : SymD) (v : Int) : hasC PgSI.cmp ys ⟨k, v⟩ = hasC SymD.cmp (ys.map PgSI.k) k := by
  unfold hasC
  rw [List.any_map]
  rfl
theorem PgSI.srt_keys {ys : List PgSI} : Srt PgSI.cmp ys ↔ Srt SymD.cmp (ys.map PgSI.k) := by
  constructor
  · intro h i j a b hij ha hb
    rw [List.getElem?_map] at ha hb
    obtain ⟨a', ha', rfl⟩ := Option.map_eq_some_iff.1 ha
    obtain ⟨b', hb', rfl⟩ := Option.map_eq_some_iff.1 hb
    exact h i j a' b' hij ha' hb'
  · intro h i j a b hij ha hb
    exact h i j a.k b.k hij (by rw [List.getElem?_map, ha]; rfl) (by rw [List.getElem?_map, hb]; rfl)
theorem PgSI.find_keys {ys : List PgSI} {k : SymD} {v : Int} {i : Nat} {there : Bool} (h : FindR PgSI.cmp ys ⟨k, v⟩ i there) : FindR SymD.cmp (ys.map PgSI.k) k i there := by
  refine ⟨by simpa using h.1, fun e => ?_, fun e => ?_⟩
  · obtain ⟨y, hy, hz⟩ := h.2.1 e
    exact ⟨y.k, by rw [List.getElem?_map, hy]; rfl, hz⟩
  · obtain ⟨h1, h2⟩ := h.2.2 e
    refine ⟨fun j y hj hy => ?_, fun j y hj hy => ?_⟩ <;> rw [List.getElem?_map] at hy <;> obtain ⟨y', hy', rfl⟩ := Option.map_eq_some_iff.1 hy
    · exact h1 j y' hj hy'
    · exact h2 j y' hj hy'
theorem putLSI_keys {ys : List PgSI} {k : SymD} {v : Int} {i : Nat} {there : Bool} (hs : Srt PgSI.cmp ys) (h : FindR PgSI.cmp ys ⟨k, v⟩ i there) : (putLSI ys k v i there).map PgSI.k = insC SymD.cmp (ys.map PgSI.k) k := by
  rw [← insC_of linSym (PgSI.srt_keys.1 hs) (PgSI.find_keys h)]
  cases there with
  | false =>
    show (ys.take i ++ ⟨k, v⟩ :: ys.drop i).map PgSI.k = _
    simp [List.map_take, List.map_drop]
  | true =>
    obtain ⟨y, hy, _⟩ := h.2.1 rfl
    show (ys.set i ⟨(ys[i]?.map (·.k)).getD k, v⟩).map PgSI.k = _
    rw [hy]
    apply List.ext_getElem?
    intro j
    simp only [List.getElem?_map, List.getElem?_set, cond_true]
    by_cases e : i = j
    · subst e
      have hi : i < ys.length := (List.getElem?_eq_some_iff.1 hy).1
      rw [List.getElem?_eq_getElem hi] at hy
      have hy := Option.some.inj hy
      simp [hi, hy]
    · simp [e]
theorem putLSI_srt {ys : List PgSI} {k : SymD} {v : Int} {i : Nat} {there : Bool} (hs : Srt PgSI.cmp ys) (h : FindR PgSI.cmp ys ⟨k, v⟩ i there) : Srt PgSI.cmp (putLSI ys k v i there) := by
  rw [PgSI.srt_keys, putLSI_keys hs h]
  exact (PgSI.srt_keys.1 hs).insC linSym k
theorem putLSI_len {ys : List PgSI} {k : SymD} {v : Int} {i : Nat} {there : Bool} (hs : Srt PgSI.cmp ys) (h : FindR PgSI.cmp ys ⟨k, v⟩ i there) : (putLSI ys k v i there).length ≤ ys.length + 1 := by
  have h1 := congrArg List.length (putLSI_keys hs h)
  have h2 := length_insC_le (f := SymD.cmp) (ys.map PgSI.k) k
  simp only [List.length_map] at h1 h2
  omega
/-- A page behind it: the new one's, or one of those that were there, of another key. -/
theorem putLSI_mem {ys : List PgSI} {k : SymD} {v : Int} {i : Nat} {there : Bool} (hs : Srt PgSI.cmp ys) (h : FindR PgSI.cmp ys ⟨k, v⟩ i there) (y : PgSI) (hy : y ∈ putLSI ys k v i there) : (y.v = v ∧ y.k.cmp k = 0) ∨ (y ∈ ys ∧ y.k.cmp k ≠ 0) := by
  cases there with
  | false =>
    have hno : ∀ z ∈ ys, z.k.cmp k ≠ 0 := fun z hz e => by
      have := List.any_eq_false.1 (hasC_of h) z hz
      exact this (decide_eq_true e)
    have hy : y ∈ ys.take i ++ ⟨k, v⟩ :: ys.drop i := hy
    rcases List.mem_append.1 hy with hy | hy
    · exact .inr ⟨List.mem_of_mem_take hy, hno y (List.mem_of_mem_take hy)⟩
    · rcases List.mem_cons.1 hy with rfl | hy
      · exact .inl ⟨rfl, linSym.refl k⟩
      · exact .inr ⟨List.mem_of_mem_drop hy, hno y (List.mem_of_mem_drop hy)⟩
  | true =>
    obtain ⟨z, hz, e⟩ := h.2.1 rfl
    have e : z.k.cmp k = 0 := e
    have hy : y ∈ ys.set i ⟨(ys[i]?.map (·.k)).getD k, v⟩ := hy
    rw [hz] at hy
    obtain ⟨j, hj⟩ := List.mem_iff_getElem?.1 hy
    rw [List.getElem?_set] at hj
    split at hj
    · split at hj
      · cases hj; exact .inl ⟨rfl, e⟩
      · cases hj
    · rename_i hne
      refine .inr ⟨List.mem_of_getElem? hj, fun e2 => ?_⟩
      have h3 : PgSI.cmp y z = 0 := by
        show y.k.cmp z.k = 0
        rw [linSym.eqv' z.k k y.k e]; exact e2
      have h4 := hs.uniq PgSI.lin (List.mem_of_getElem? hj) (List.mem_of_getElem? hz) h3
      subst h4
      by_cases hlt : i < j
      · have := hs i j y y hlt hz hj; have := PgSI.lin.refl y; omega
      · have := hs j i y y (by omega) hj hz; have := PgSI.lin.refl y; omega
end Go.Proofs.Ytonjhakjnopbjaa
/- The levels of goals, and of what is reached: the walk, all of it. -/
namespace Go.Proofs.Ytonjhakjnopbjaa
open Go Go.Sl
attribute [local irreducible] Code.wpIn roundPost bodyPostM runL Ret Meets MeetsD Begin

structure L1I (gs : List SymD) (xs : List ElemD) (n i : Nat) (ys : List PgSI) (f : SymD → Int) : Prop where
  le : i ≤ n
  ini : Init gs xs i f
  tab : TabP ys f
  keys : ys.map PgSI.k = (gs.take i).foldl (insC SymD.cmp) []
structure L2I (gs : List SymD) (xs : List ElemD) (n i : Nat) (ys : List PgSI) (f : SymD → Int) : Prop where
  le : i ≤ n
  st : Stage gs xs i f
  tab : TabP ys f
theorem L1I.len {gs : List SymD} {xs : List ElemD} {n i : Nat} {ys : List PgSI} {f : SymD → Int} (h : L1I gs xs n i ys f) : ys.length ≤ gs.length + xs.length := tab_len h.tab h.ini.snd
theorem L2I.len {gs : List SymD} {xs : List ElemD} {n i : Nat} {ys : List PgSI} {f : SymD → Int} (h : L2I gs xs n i ys f) : ys.length ≤ gs.length + xs.length := tab_len h.tab h.st.snd
theorem L1I.old {gs : List SymD} {xs : List ElemD} {n i : Nat} {ys : List PgSI} {f : SymD → Int} (h : L1I gs xs n i ys f) {x : SymD} (hx : gs[i]? = some x) (hi : i < n) (hf : f x ≠ 0) : L1I gs xs n (i + 1) ys f :=
  ⟨hi, h.ini.old hx hf, h.tab, by
    rw [foldl_take_succ hx, ← h.keys, insC_old]
    rw [h.tab.has_keys x, decide_eq_true hf]⟩
theorem L1I.new {gs : List SymD} {xs : List ElemD} {n i : Nat} {ys : List PgSI} {f : SymD → Int} (h : L1I gs xs n i ys f) {x : SymD} (hx : gs[i]? = some x) (hi : i < n) (hf : f x = 0) : L1I gs xs n (i + 1) (insC PgSI.cmp ys ⟨x, (i : Int) + 1⟩) (updF f x ((i : Int) + 1)) :=
  ⟨hi, h.ini.new hx hf, h.tab.ins hf (by omega), by rw [foldl_take_succ hx, ← h.keys, insC_keys]⟩
theorem hasC_no {ys : List PgSI} {f : SymD → Int} (h : TabP ys f) {x : SymD} (n : Int) (hf : f x = 0) : hasC PgSI.cmp ys ⟨x, n⟩ = false := by
  rw [← Bool.not_eq_true, h.has x n]; exact fun e => e hf
theorem RunI.next {gs : List SymD} {xs : List ElemD} {i k : Nat} {cur : Option SymD} {pre todo : List SymD} {ys : List PgSI} {f : SymD → Int} (h : RunI gs xs i k cur pre todo ys f) {v : SymD} (hv : v.kind = 1 → f v ≠ 0) : RunI gs xs i k cur (pre ++ [v]) todo ys f :=
  ⟨h.work, h.tab, fun u hu hk => by
    rcases List.mem_append.1 hu with hu | hu
    · exact h.pre u hu hk
    · rw [List.mem_singleton] at hu; subst hu; exact hv hk, h.mu⟩
theorem RunI.add {gs : List SymD} {xs : List ElemD} {i k : Nat} {s g : SymD} {pre todo : List SymD} {ys : List PgSI} {f : SymD → Int} (h : RunI gs xs i k (some s) pre todo ys f) (hg : gs[i]? = some g) {v : SymD} (he : Hop xs s v) (hf : f v = 0) :
    RunI gs xs i k (some s) (pre ++ [v]) (todo ++ [v]) (insC PgSI.cmp ys ⟨v, (i : Int) + 1⟩) (updF f v ((i : Int) + 1)) := by
  have hw := h.work.add hg he hf
  have ht := h.tab.ins hf (n := (i : Int) + 1) (by omega)
  have hl := tab_len ht hw.snd
  have hno := hasC_no h.tab ((i : Int) + 1) hf
  have hle := length_insC (f := PgSI.cmp) ys ⟨v, (i : Int) + 1⟩
  rw [hno] at hle
  simp only [Bool.false_eq_true, if_false] at hle
  refine ⟨hw, ht, fun u hu hk => ?_, ?_⟩
  · by_cases e : u = v
    · subst e; rw [updF_same]; omega
    · rw [updF_ne f _ e]
      rcases List.mem_append.1 hu with hu | hu
      · exact h.pre u hu hk
      · rw [List.mem_singleton] at hu; exact absurd hu e
  · have := h.mu
    simp only [List.length_append, List.length_singleton]
    omega
theorem RunI.begin {gs : List SymD} {xs : List ElemD} {n i : Nat} {ys : List PgSI} {f : SymD → Int} (h : L2I gs xs n i ys f) {g : SymD} (hg : gs[i]? = some g) (hf : f g = (i : Int) + 1) : RunI gs xs i (1 + (gs.length + xs.length)) none [] [g] ys f :=
  ⟨h.st.begin hg hf, h.tab, by simp, by simp⟩
theorem RunI.pop {gs : List SymD} {xs : List ElemD} {i k : Nat} {s : SymD} {todo : List SymD} {ys : List PgSI} {f : SymD → Int} (h : RunI gs xs i k none [] (s :: todo) ys f) : 0 < k ∧ RunI gs xs i (k - 1) (some s) [] todo ys f := by
  have := h.mu
  simp only [List.length_cons] at this
  exact ⟨by omega, h.work.pop, h.tab, by simp, by omega⟩
theorem RunI.shut {gs : List SymD} {xs : List ElemD} {i k : Nat} {s : SymD} {pre todo : List SymD} {ys : List PgSI} {f : SymD → Int} (h : RunI gs xs i k (some s) pre todo ys f) (hp : ∀ b, Hop xs s b → b ∈ pre) : RunI gs xs i k none [] todo ys f :=
  ⟨h.work.shut fun b hb => h.pre b (hp b hb) (by obtain ⟨_, _, _, _, hk⟩ := hb; exact hk), h.tab, by simp, h.mu⟩
theorem RunI.done {gs : List SymD} {xs : List ElemD} {n i k : Nat} {ys : List PgSI} {f : SymD → Int} (h : RunI gs xs i k none [] [] ys f) (hi : i < n) : L2I gs xs n (i + 1) ys f := ⟨hi, h.work.done, h.tab⟩
theorem L2I.skip {gs : List SymD} {xs : List ElemD} {n i : Nat} {ys : List PgSI} {f : SymD → Int} (h : L2I gs xs n i ys f) {g : SymD} (hg : gs[i]? = some g) (hi : i < n) (hf : f g ≠ (i : Int) + 1) : L2I gs xs n (i + 1) ys f := ⟨hi, h.st.skip hg hf, h.tab⟩
set_option maxHeartbeats 4000000 in
theorem Levels_spec (A : Option Addr) (n c : Nat) (gs : List SymD) (hg : gs.length = n) (hn : n ≤ 10000) (gf : FuncId) (lb : List Value) (xs : List ElemD) (hl : xs.length ≤ 10000) (Ks : List SProp) [En Try.prog gf] (hit : ∀ K, Iter Try.prog gf lb encVE xs (K ++ Ks)) :
    Ctr Try.prog 63 [.slice A n c, .func (.func gf) #[] lb.toArray] (psl encS 3 A gs :: Ks)
      (fun v M => ∃ m ys, v = .pointer (some ⟨m, 0, none⟩) ∧ TabP ys (rlev gs xs) ∧ ys.length ≤ n + xs.length ∧ M = MapASI m ys :: psl encS 3 A gs :: Ks) := by
  refine spec_of Try.func63 rfl Try.ntmps63 rfl fun w0 F => ?_
  -- ponder/reach.Levels
  repeat (first | refine g_endt ?_ | refine g_end ?_ | refine g_then ?_ | refine g_in_normal ?_ | refine g_then_ret ?_ | refine g_in_ret ?_ | refine g_then_exit ?_ | refine g_in_exit rfl ?_ | refine g_in_exit_ne (by decide) ?_ | refine g_seq ?_ | refine g_region ?_ | refine g_block ?_ | refine g_ret ?_ | refine g_return_n ?_ | refine g_exit ?_ | refine g_skip ?_)
  refine o_assign ?_
  first | refine g_endt ?_ | refine g_end ?_
  repeat (first | refine g_endt ?_ | refine g_end ?_ | refine g_then ?_ | refine g_in_normal ?_ | refine g_then_ret ?_ | refine g_in_ret ?_ | refine g_then_exit ?_ | refine g_in_exit rfl ?_ | refine g_in_exit_ne (by decide) ?_ | refine g_seq ?_ | refine g_region ?_ | refine g_block ?_ | refine g_ret ?_ | refine g_return_n ?_ | refine g_exit ?_ | refine g_skip ?_)
  refine o_call (NewMSI_spec) rfl rfl ?_
  rintro _ _ ⟨m, rfl, rfl⟩
  refine o_alloc fun c5 => ?_
  refine o_store (v := .pointer (some ⟨m, 0, none⟩)) rfl rfl rfl rfl rfl ?_
  first | refine g_endt ?_ | refine g_end ?_
  refine G.norm c5 #[.pointer (some ⟨m, 0, none⟩)] rfl ?_
  repeat (first | refine g_endt ?_ | refine g_end ?_ | refine g_then ?_ | refine g_in_normal ?_ | refine g_then_ret ?_ | refine g_in_ret ?_ | refine g_then_exit ?_ | refine g_in_exit rfl ?_ | refine g_in_exit_ne (by decide) ?_ | refine g_seq ?_ | refine g_region ?_ | refine g_block ?_ | refine g_ret ?_ | refine g_return_n ?_ | refine g_exit ?_ | refine g_skip ?_)
  refine o_move ?_
  refine o_len rfl rfl ?_
  refine o_move ?_
  first | refine g_endt ?_ | refine g_end ?_
  repeat (first | refine g_endt ?_ | refine g_end ?_ | refine g_then ?_ | refine g_in_normal ?_ | refine g_then_ret ?_ | refine g_in_ret ?_ | refine g_then_exit ?_ | refine g_in_exit rfl ?_ | refine g_in_exit_ne (by decide) ?_ | refine g_seq ?_ | refine g_region ?_ | refine g_block ?_ | refine g_ret ?_ | refine g_return_n ?_ | refine g_exit ?_ | refine g_skip ?_)
  refine g_loopD (σ := {t : Nat × List PgSI × (SymD → Int) // L1I gs xs n t.1 t.2.1 t.2.2}) (S := fun t => [(0, .slice A n c), (1, .func (.func gf) #[] lb.toArray), (5, .pointer (some ⟨c5, 0, none⟩)), (21, .slice A n c), (22, .int .i64 (n : Int)), (23, .int .i64 (t.1.1 : Int))])
    (H := fun t => MapASI m t.1.2.1 :: cellsB c5 #[.pointer (some ⟨m, 0, none⟩)] 93 :: psl encS 3 A gs :: Ks) (μ := fun t => n - t.1.1)
    (s0 := ⟨(0, [], fun _ => 0), Nat.zero_le _, Init.zero, TabP.nil, rfl⟩) (Sat.mem ⟨rfl, rfl, rfl, rfl, rfl, rfl, trivial⟩) (t := (inferInstance : Take _ (MapASI m [] :: cellsB c5 #[.pointer (some ⟨m, 0, none⟩)] 93 :: psl encS 3 A gs :: Ks) _)) ?_
  rintro ⟨⟨i, ys, f⟩, hI⟩ ρ' ds'
  dsimp only at hI ⊢
  have hys := hI.len
  repeat (first | refine g_endt ?_ | refine g_end ?_ | refine g_then ?_ | refine g_in_normal ?_ | refine g_then_ret ?_ | refine g_in_ret ?_ | refine g_then_exit ?_ | refine g_in_exit rfl ?_ | refine g_in_exit_ne (by decide) ?_ | refine g_seq ?_ | refine g_region ?_ | refine g_block ?_ | refine g_ret ?_ | refine g_return_n ?_ | refine g_exit ?_ | refine g_skip ?_)
  refine o_lss rfl rfl ?_
  first | refine g_endt ?_ | refine g_end ?_
  by_cases h : i < n
  · first | refine g_seq (g_cond_t rfl (by first | rfl | (simp; done) | (simp; omega) | (simp; assumption)) ?_) | refine g_cond_t rfl (by first | rfl | (simp; done) | (simp; omega) | (simp; assumption)) ?_
    have hi' : i < gs.length := by omega
    obtain ⟨x, hx⟩ : ∃ x, gs[i]? = some x := ⟨_, List.getElem?_eq_getElem hi'⟩
    repeat (first | refine g_endt ?_ | refine g_end ?_ | refine g_then ?_ | refine g_in_normal ?_ | refine g_then_ret ?_ | refine g_in_ret ?_ | refine g_then_exit ?_ | refine g_in_exit rfl ?_ | refine g_in_exit_ne (by decide) ?_ | refine g_seq ?_ | refine g_region ?_ | refine g_block ?_ | refine g_ret ?_ | refine g_return_n ?_ | refine g_exit ?_ | refine g_skip ?_)
    refine o_move ?_
    refine o_indexR (ys := gs) (i := i) rfl rfl rfl hi' hg rfl ?_
    refine o_loadE (ys := gs) rfl rfl hx ?_
    refine o_alloc fun c7 => ?_
    refine o_assign ?_
    refine o_store (v := x.val) rfl rfl rfl rfl rfl ?_
    first | refine g_endt ?_ | refine g_end ?_
    refine G.norm c7 x.val.cells rfl ?_
    repeat (first | refine g_endt ?_ | refine g_end ?_ | refine g_then ?_ | refine g_in_normal ?_ | refine g_then_ret ?_ | refine g_in_ret ?_ | refine g_then_exit ?_ | refine g_in_exit rfl ?_ | refine g_in_exit_ne (by decide) ?_ | refine g_seq ?_ | refine g_region ?_ | refine g_block ?_ | refine g_ret ?_ | refine g_return_n ?_ | refine g_exit ?_ | refine g_skip ?_)
    refine o_load1 (v := .pointer (some ⟨m, 0, none⟩)) rfl rfl ?_
    refine o_loadN (v := x.val) rfl rfl rfl ?_
    refine o_call (GetLv_spec m ys f x hI.tab (by omega)) rfl rfl ?_
    rintro _ _ ⟨rfl, rfl⟩
    refine o_move ?_
    refine o_extract rfl rfl ?_
    refine o_extract rfl rfl ?_
    refine o_assign ?_
    refine o_assign ?_
    first | refine g_endt ?_ | refine g_end ?_
    repeat (first | refine g_endt ?_ | refine g_end ?_ | refine g_then ?_ | refine g_in_normal ?_ | refine g_then_ret ?_ | refine g_in_ret ?_ | refine g_then_exit ?_ | refine g_in_exit rfl ?_ | refine g_in_exit_ne (by decide) ?_ | refine g_seq ?_ | refine g_region ?_ | refine g_block ?_ | refine g_ret ?_ | refine g_return_n ?_ | refine g_exit ?_ | refine g_skip ?_)
    refine o_move ?_
    refine o_not rfl ?_
    first | refine g_endt ?_ | refine g_end ?_
    by_cases hf : f x = 0
    · first | refine g_seq (g_cond_t rfl (by simp [hf]) ?_) | refine g_cond_t rfl (by simp [hf]) ?_
      repeat (first | refine g_endt ?_ | refine g_end ?_ | refine g_then ?_ | refine g_in_normal ?_ | refine g_then_ret ?_ | refine g_in_ret ?_ | refine g_then_exit ?_ | refine g_in_exit rfl ?_ | refine g_in_exit_ne (by decide) ?_ | refine g_seq ?_ | refine g_region ?_ | refine g_block ?_ | refine g_ret ?_ | refine g_return_n ?_ | refine g_exit ?_ | refine g_skip ?_)
      refine o_load1 (v := .pointer (some ⟨m, 0, none⟩)) rfl rfl ?_
      refine o_loadN (v := x.val) rfl rfl rfl ?_
      refine o_move ?_
      refine o_add (c := (i : Int) + 1) rfl rfl rfl (by omega) (by omega) ?_
      refine o_call (PutNMSI_spec m ys x ((i : Int) + 1) hI.tab.srt (by omega) (hasC_no hI.tab _ hf)) rfl rfl ?_
      rintro _ _ ⟨rfl, rfl⟩
      first | refine g_endt ?_ | refine g_end ?_
      repeat (first | refine g_endt ?_ | refine g_end ?_ | refine g_then ?_ | refine g_in_normal ?_ | refine g_then_ret ?_ | refine g_in_ret ?_ | refine g_then_exit ?_ | refine g_in_exit rfl ?_ | refine g_in_exit_ne (by decide) ?_ | refine g_seq ?_ | refine g_region ?_ | refine g_block ?_ | refine g_ret ?_ | refine g_return_n ?_ | refine g_exit ?_ | refine g_skip ?_)
      refine o_add (c := ((i + 1 : Nat) : Int)) rfl rfl (by omega) (by omega) (by omega) ?_
      refine o_move ?_
      first | refine g_endt ?_ | refine g_end ?_
      repeat (first | refine g_endt ?_ | refine g_end ?_ | refine g_then ?_ | refine g_in_normal ?_ | refine g_then_ret ?_ | refine g_in_ret ?_ | refine g_then_exit ?_ | refine g_in_exit rfl ?_ | refine g_in_exit_ne (by decide) ?_ | refine g_seq ?_ | refine g_region ?_ | refine g_block ?_ | refine g_ret ?_ | refine g_return_n ?_ | refine g_exit ?_ | refine g_skip ?_)
      exact g_meetsD (⟨(i + 1, insC PgSI.cmp ys ⟨x, (i : Int) + 1⟩, updF f x ((i : Int) + 1)), hI.new hx h hf⟩) (by first | exact trivial | (dsimp only; omega)) (Sat.mem (by repeat (first | exact trivial | refine And.intro rfl ?_)))
    · first | refine g_seq (g_cond_f rfl (by simp [hf]) ?_) | refine g_cond_f rfl (by simp [hf]) ?_
      repeat (first | refine g_endt ?_ | refine g_end ?_ | refine g_then ?_ | refine g_in_normal ?_ | refine g_then_ret ?_ | refine g_in_ret ?_ | refine g_then_exit ?_ | refine g_in_exit rfl ?_ | refine g_in_exit_ne (by decide) ?_ | refine g_seq ?_ | refine g_region ?_ | refine g_block ?_ | refine g_ret ?_ | refine g_return_n ?_ | refine g_exit ?_ | refine g_skip ?_)
      refine o_add (c := ((i + 1 : Nat) : Int)) rfl rfl (by omega) (by omega) (by omega) ?_
      refine o_move ?_
      first | refine g_endt ?_ | refine g_end ?_
      repeat (first | refine g_endt ?_ | refine g_end ?_ | refine g_then ?_ | refine g_in_normal ?_ | refine g_then_ret ?_ | refine g_in_ret ?_ | refine g_then_exit ?_ | refine g_in_exit rfl ?_ | refine g_in_exit_ne (by decide) ?_ | refine g_seq ?_ | refine g_region ?_ | refine g_block ?_ | refine g_ret ?_ | refine g_return_n ?_ | refine g_exit ?_ | refine g_skip ?_)
      exact g_meetsD (⟨(i + 1, ys, f), hI.old hx h hf⟩) (by first | exact trivial | (dsimp only; omega)) (Sat.mem (by repeat (first | exact trivial | refine And.intro rfl ?_)))
  first | refine g_seq (g_cond_f rfl (by simp; omega) ?_) | refine g_cond_f rfl (by simp; omega) ?_
  have hin : i = gs.length := by have := hI.le; omega
  subst hin
  have hkeys := hI.keys
  rw [List.take_length] at hkeys
  have hst := hI.ini.stage
  have htab := hI.tab
  clear hI
  repeat (first | refine g_endt ?_ | refine g_end ?_ | refine g_then ?_ | refine g_in_normal ?_ | refine g_then_ret ?_ | refine g_in_ret ?_ | refine g_then_exit ?_ | refine g_in_exit rfl ?_ | refine g_in_exit_ne (by decide) ?_ | refine g_seq ?_ | refine g_region ?_ | refine g_block ?_ | refine g_ret ?_ | refine g_return_n ?_ | refine g_exit ?_ | refine g_skip ?_)
  refine o_move ?_
  refine o_call (ways_spec gf lb xs (by omega) Ks hit) rfl rfl ?_
  rintro _ _ ⟨w, rfl, rfl⟩
  refine o_assign ?_
  first | refine g_endt ?_ | refine g_end ?_
  repeat (first | refine g_endt ?_ | refine g_end ?_ | refine g_then ?_ | refine g_in_normal ?_ | refine g_then_ret ?_ | refine g_in_ret ?_ | refine g_then_exit ?_ | refine g_in_exit rfl ?_ | refine g_in_exit_ne (by decide) ?_ | refine g_seq ?_ | refine g_region ?_ | refine g_block ?_ | refine g_ret ?_ | refine g_return_n ?_ | refine g_exit ?_ | refine g_skip ?_)
  refine o_move ?_
  refine o_callp (NewSSl_spec A n c gs hg (by omega)) rfl rfl ?_
  rintro _ _ ⟨z, rfl, rfl⟩
  refine o_alloc fun c11 => ?_
  refine o_store (v := .pointer (some ⟨z, 0, none⟩)) rfl rfl rfl rfl rfl ?_
  first | refine g_endt ?_ | refine g_end ?_
  refine G.norm c11 #[.pointer (some ⟨z, 0, none⟩)] rfl ?_
  rw [← hkeys]
  repeat (first | refine g_endt ?_ | refine g_end ?_ | refine g_then ?_ | refine g_in_normal ?_ | refine g_then_ret ?_ | refine g_in_ret ?_ | refine g_then_exit ?_ | refine g_in_exit rfl ?_ | refine g_in_exit_ne (by decide) ?_ | refine g_seq ?_ | refine g_region ?_ | refine g_block ?_ | refine g_ret ?_ | refine g_return_n ?_ | refine g_exit ?_ | refine g_skip ?_)
  refine o_move ?_
  refine o_len rfl rfl ?_
  refine o_move ?_
  first | refine g_endt ?_ | refine g_end ?_
  repeat (first | refine g_endt ?_ | refine g_end ?_ | refine g_then ?_ | refine g_in_normal ?_ | refine g_then_ret ?_ | refine g_in_ret ?_ | refine g_then_exit ?_ | refine g_in_exit rfl ?_ | refine g_in_exit_ne (by decide) ?_ | refine g_seq ?_ | refine g_region ?_ | refine g_block ?_ | refine g_ret ?_ | refine g_return_n ?_ | refine g_exit ?_ | refine g_skip ?_)
  refine g_loopD (σ := {t : Nat × List PgSI × (SymD → Int) // L2I gs xs n t.1 t.2.1 t.2.2}) (S := fun t => [(5, .pointer (some ⟨c5, 0, none⟩)), (10, .pointer (some ⟨w, 0, none⟩)), (11, .pointer (some ⟨c11, 0, none⟩)), (46, .slice A n c), (47, .int .i64 (n : Int)), (48, .int .i64 (t.1.1 : Int))])
    (H := fun t => MapASI m t.1.2.1 :: SetASS z (t.1.2.1.map PgSI.k) :: WayP w xs :: cellsB c5 #[.pointer (some ⟨m, 0, none⟩)] 93 :: cellsB c11 #[.pointer (some ⟨z, 0, none⟩)] 103 :: psl encS 3 A gs :: Ks) (μ := fun t => n - t.1.1)
    (s0 := ⟨(0, ys, f), Nat.zero_le _, hst, htab⟩) (Sat.mem ⟨rfl, rfl, rfl, rfl, rfl, rfl, trivial⟩)
    (t := (inferInstance : Take _ (MapASI m ys :: SetASS z (ys.map PgSI.k) :: WayP w xs :: cellsB c5 #[.pointer (some ⟨m, 0, none⟩)] 93 :: cellsB c11 #[.pointer (some ⟨z, 0, none⟩)] 103 :: psl encS 3 A gs :: Ks) _)) ?_
  clear hst htab hkeys hys h ys f
  rintro ⟨⟨i, ys, f⟩, hI⟩ ρ2 ds2
  dsimp only at hI ⊢
  have hys := hI.len
  repeat (first | refine g_endt ?_ | refine g_end ?_ | refine g_then ?_ | refine g_in_normal ?_ | refine g_then_ret ?_ | refine g_in_ret ?_ | refine g_then_exit ?_ | refine g_in_exit rfl ?_ | refine g_in_exit_ne (by decide) ?_ | refine g_seq ?_ | refine g_region ?_ | refine g_block ?_ | refine g_ret ?_ | refine g_return_n ?_ | refine g_exit ?_ | refine g_skip ?_)
  refine o_lss rfl rfl ?_
  first | refine g_endt ?_ | refine g_end ?_
  by_cases h : i < n
  · first | refine g_seq (g_cond_t rfl (by first | rfl | (simp; done) | (simp; omega) | (simp; assumption)) ?_) | refine g_cond_t rfl (by first | rfl | (simp; done) | (simp; omega) | (simp; assumption)) ?_
    have hi' : i < gs.length := by omega
    obtain ⟨x, hx⟩ : ∃ x, gs[i]? = some x := ⟨_, List.getElem?_eq_getElem hi'⟩
    repeat (first | refine g_endt ?_ | refine g_end ?_ | refine g_then ?_ | refine g_in_normal ?_ | refine g_then_ret ?_ | refine g_in_ret ?_ | refine g_then_exit ?_ | refine g_in_exit rfl ?_ | refine g_in_exit_ne (by decide) ?_ | refine g_seq ?_ | refine g_region ?_ | refine g_block ?_ | refine g_ret ?_ | refine g_return_n ?_ | refine g_exit ?_ | refine g_skip ?_)
    refine o_move ?_
    refine o_indexR (ys := gs) (i := i) rfl rfl rfl hi' hg rfl ?_
    refine o_loadE (ys := gs) rfl rfl hx ?_
    refine o_alloc fun c12 => ?_
    refine o_alloc fun c13 => ?_
    refine o_store (v := .int .i64 (i : Int)) rfl rfl rfl rfl rfl ?_
    refine o_store (v := x.val) rfl rfl rfl rfl rfl ?_
    first | refine g_endt ?_ | refine g_end ?_
    refine G.norm c12 #[.int .i64 (i : Int)] rfl ?_
    refine G.norm c13 x.val.cells rfl ?_
    repeat (first | refine g_endt ?_ | refine g_end ?_ | refine g_then ?_ | refine g_in_normal ?_ | refine g_then_ret ?_ | refine g_in_ret ?_ | refine g_then_exit ?_ | refine g_in_exit rfl ?_ | refine g_in_exit_ne (by decide) ?_ | refine g_seq ?_ | refine g_region ?_ | refine g_block ?_ | refine g_ret ?_ | refine g_return_n ?_ | refine g_exit ?_ | refine g_skip ?_)
    refine o_load1 (v := .pointer (some ⟨m, 0, none⟩)) rfl rfl ?_
    refine o_loadN (v := x.val) rfl rfl rfl ?_
    refine o_call (GetLv_spec m ys f x hI.tab (by omega)) rfl rfl ?_
    rintro _ _ ⟨rfl, rfl⟩
    refine o_move ?_
    refine o_extract rfl rfl ?_
    refine o_extract rfl rfl ?_
    refine o_assign ?_
    refine o_assign ?_
    first | refine g_endt ?_ | refine g_end ?_
    repeat (first | refine g_endt ?_ | refine g_end ?_ | refine g_then ?_ | refine g_in_normal ?_ | refine g_then_ret ?_ | refine g_in_ret ?_ | refine g_then_exit ?_ | refine g_in_exit rfl ?_ | refine g_in_exit_ne (by decide) ?_ | refine g_seq ?_ | refine g_region ?_ | refine g_block ?_ | refine g_ret ?_ | refine g_return_n ?_ | refine g_exit ?_ | refine g_skip ?_)
    refine o_move ?_
    refine o_load1 (v := .int .i64 (i : Int)) rfl rfl ?_
    refine o_add (c := (i : Int) + 1) rfl rfl rfl (by omega) (by omega) ?_
    refine o_neq rfl rfl ?_
    first | refine g_endt ?_ | refine g_end ?_
    by_cases hf : f x = (i : Int) + 1
    · first | refine g_seq (g_cond_f rfl (by simp [hf]) ?_) | refine g_cond_f rfl (by simp [hf]) ?_
      repeat (first | refine g_endt ?_ | refine g_end ?_ | refine g_then ?_ | refine g_in_normal ?_ | refine g_then_ret ?_ | refine g_in_ret ?_ | refine g_then_exit ?_ | refine g_in_exit rfl ?_ | refine g_in_exit_ne (by decide) ?_ | refine g_seq ?_ | refine g_region ?_ | refine g_block ?_ | refine g_ret ?_ | refine g_return_n ?_ | refine g_exit ?_ | refine g_skip ?_)
      refine o_loadN (v := x.val) rfl rfl rfl ?_
      refine o_slice_lit (e := 31) x.val.cells (fun w => by kernel_rfl) fun b => ?_
      refine o_alloc fun r => ?_
      refine o_store (v := .slice (some ⟨b, 0, none⟩) 1 1) rfl rfl rfl rfl rfl ?_
      first | refine g_endt ?_ | refine g_end ?_
      refine G.norm r #[.slice (some ⟨b, 0, none⟩) 1 1] rfl ?_
      refine G.lit_q 31 (enc := encS) (sz := 3) b x.val.cells [x] (n := 1) rfl (by simp [encS]) (by simp [maxLen]) ?_
      refine shutR (gs := gs) (xs := xs) r m z i (1 + (gs.length + xs.length)) none [] (some ⟨b, 0, none⟩) 1 [x] ys f (RunI.begin hI hx hf) (n := 1) rfl rfl (tk := (inferInstance : Take _ [qsl 31 encS 3 (some ⟨b, 0, none⟩) 1 [x], cellsB r #[.slice (some ⟨b, 0, none⟩) 1 1] 58, MapASI m ys, SetASS z (ys.map PgSI.k)] _)) ?_
      repeat (first | refine g_endt ?_ | refine g_end ?_ | refine g_then ?_ | refine g_in_normal ?_ | refine g_then_ret ?_ | refine g_in_ret ?_ | refine g_then_exit ?_ | refine g_in_exit rfl ?_ | refine g_in_exit_ne (by decide) ?_ | refine g_seq ?_ | refine g_region ?_ | refine g_block ?_ | refine g_ret ?_ | refine g_return_n ?_ | refine g_exit ?_ | refine g_skip ?_)
      refine g_loopD (σ := {k : Nat // k ≤ 1 + (gs.length + xs.length)}) (S := fun t => [(5, .pointer (some ⟨c5, 0, none⟩)), (10, .pointer (some ⟨w, 0, none⟩)), (11, .pointer (some ⟨c11, 0, none⟩)), (12, .pointer (some ⟨c12, 0, none⟩)), (16, .pointer (some ⟨r, 0, none⟩)), (46, .slice A n c), (47, .int .i64 (n : Int)), (48, .int .i64 (i : Int))])
        (H := fun t => RunP gs xs r m z i t.1 none [] :: WayP w xs :: cellsB c12 #[.int .i64 (i : Int)] 3 :: cellsB c5 #[.pointer (some ⟨m, 0, none⟩)] 93 :: cellsB c11 #[.pointer (some ⟨z, 0, none⟩)] 103 :: psl encS 3 A gs :: Ks) (μ := fun t => t.1)
        (s0 := ⟨1 + (gs.length + xs.length), Nat.le_refl _⟩) (Sat.mem ⟨rfl, rfl, rfl, rfl, rfl, rfl, rfl, rfl, trivial⟩)
        (t := (inferInstance : Take _ (RunP gs xs r m z i (1 + (gs.length + xs.length)) none [] :: WayP w xs :: cellsB c12 #[.int .i64 (i : Int)] 3 :: cellsB c5 #[.pointer (some ⟨m, 0, none⟩)] 93 :: cellsB c11 #[.pointer (some ⟨z, 0, none⟩)] 103 :: psl encS 3 A gs :: Ks) _)) ?_
      clear hys hf hI ys f
      rintro ⟨k, hk⟩ ρ3 ds3
      dsimp only
      refine openR (gs := gs) (xs := xs) r m z i k none [] fun S e todo ys f hR => ?_
      have hys := hR.len
      have hmu := hR.mu
      repeat (first | refine g_endt ?_ | refine g_end ?_ | refine g_then ?_ | refine g_in_normal ?_ | refine g_then_ret ?_ | refine g_in_ret ?_ | refine g_then_exit ?_ | refine g_in_exit rfl ?_ | refine g_in_exit_ne (by decide) ?_ | refine g_seq ?_ | refine g_region ?_ | refine g_block ?_ | refine g_ret ?_ | refine g_return_n ?_ | refine g_exit ?_ | refine g_skip ?_)
      first | refine o_load1 rfl rfl ?_ | refine o_loadE0 rfl (by assumption) rfl ?_ | refine o_loadE1 rfl (by assumption) rfl ?_
      refine o_len rfl rfl ?_
      refine o_gtr rfl rfl ?_
      first | refine g_endt ?_ | refine g_end ?_
      cases todo with
      | nil =>
        first | refine g_seq (g_cond_f rfl (by first | rfl | (simp; done) | (simp; omega) | (simp; assumption)) ?_) | refine g_cond_f rfl (by first | rfl | (simp; done) | (simp; omega) | (simp; assumption)) ?_
        repeat (first | refine g_endt ?_ | refine g_end ?_ | refine g_then ?_ | refine g_in_normal ?_ | refine g_then_ret ?_ | refine g_in_ret ?_ | refine g_then_exit ?_ | refine g_in_exit rfl ?_ | refine g_in_exit_ne (by decide) ?_ | refine g_seq ?_ | refine g_region ?_ | refine g_block ?_ | refine g_ret ?_ | refine g_return_n ?_ | refine g_exit ?_ | refine g_skip ?_)
        refine o_add (c := ((i + 1 : Nat) : Int)) rfl rfl (by omega) (by omega) (by omega) ?_
        refine o_move ?_
        first | refine g_endt ?_ | refine g_end ?_
        repeat (first | refine g_endt ?_ | refine g_end ?_ | refine g_then ?_ | refine g_in_normal ?_ | refine g_then_ret ?_ | refine g_in_ret ?_ | refine g_then_exit ?_ | refine g_in_exit rfl ?_ | refine g_in_exit_ne (by decide) ?_ | refine g_seq ?_ | refine g_region ?_ | refine g_block ?_ | refine g_ret ?_ | refine g_return_n ?_ | refine g_exit ?_ | refine g_skip ?_)
        exact g_meetsD (⟨(i + 1, ys, f), hR.done h⟩) (by first | exact trivial | (dsimp only; omega)) (Sat.mem (by repeat (first | exact trivial | refine And.intro rfl ?_)))
      | cons s rest =>
        obtain ⟨hk0, hP⟩ := hR.pop
        first | refine g_seq (g_cond_t rfl (by first | (simp; done) | (simp; omega)) ?_) | refine g_cond_t rfl (by first | (simp; done) | (simp; omega)) ?_
        refine openW w xs fun yw hw => ?_
        have hyw := hw.len
        have hvl := vals_len xs s
        cases hgm : getM PgSY.cmp yw ⟨s, none⟩ with
        | none =>
          have hno : ∀ b, ¬ Hop xs s b := fun b ⟨e, he, hid, _⟩ => by
            have h1 := (hw.has s).2 ⟨e, he, hid⟩
            rw [← getM_isSome, hgm] at h1
            cases h1
          repeat (first | refine g_endt ?_ | refine g_end ?_ | refine g_then ?_ | refine g_in_normal ?_ | refine g_then_ret ?_ | refine g_in_ret ?_ | refine g_then_exit ?_ | refine g_in_exit rfl ?_ | refine g_in_exit_ne (by decide) ?_ | refine g_seq ?_ | refine g_region ?_ | refine g_block ?_ | refine g_ret ?_ | refine g_return_n ?_ | refine g_exit ?_ | refine g_skip ?_)
          refine o_move ?_
          first | refine o_load1 rfl rfl ?_ | refine o_loadE0 rfl (by assumption) rfl ?_ | refine o_loadE1 rfl (by assumption) rfl ?_
          refine o_indexR (ys := s :: rest) (i := 0) rfl rfl rfl (by simp) rfl rfl ?_
          refine o_loadE (ys := s :: rest) (i := 0) rfl rfl rfl ?_
          refine o_call (GetNMSY_spec w yw s hw.srt (by omega) hgm) rfl rfl ?_
          rintro _ _ ⟨rfl, rfl⟩
          refine o_move ?_
          refine o_extract rfl rfl ?_
          refine o_extract rfl rfl ?_
          refine o_assign ?_
          refine o_assign ?_
          first | refine g_endt ?_ | refine g_end ?_
          repeat (first | refine g_endt ?_ | refine g_end ?_ | refine g_then ?_ | refine g_in_normal ?_ | refine g_then_ret ?_ | refine g_in_ret ?_ | refine g_then_exit ?_ | refine g_in_exit rfl ?_ | refine g_in_exit_ne (by decide) ?_ | refine g_seq ?_ | refine g_region ?_ | refine g_block ?_ | refine g_ret ?_ | refine g_return_n ?_ | refine g_exit ?_ | refine g_skip ?_)
          first | refine o_load1 rfl rfl ?_ | refine o_loadE0 rfl (by assumption) rfl ?_ | refine o_loadE1 rfl (by assumption) rfl ?_
          refine o_fromP (k := 1) rfl rfl rfl (by simp) ?_
          refine o_store (v := .slice (offA S e 1 3) rest.length (e - 1)) rfl rfl rfl rfl rfl ?_
          first | refine g_endt ?_ | refine g_end ?_
          refine G.norm r #[.slice (offA S e 1 3) rest.length (e - 1)] rfl ?_
          refine G.qdrop (e := 31) (enc := encS) (sz := 3) (c := e) (S := S) (xs := s :: rest) 1 (by simp) ?_
          change G _ _ (qsl 31 encS 3 (offA S e 1 3) (e - 1) rest :: _) _
          repeat (first | refine g_endt ?_ | refine g_end ?_ | refine g_then ?_ | refine g_in_normal ?_ | refine g_then_ret ?_ | refine g_in_ret ?_ | refine g_then_exit ?_ | refine g_in_exit rfl ?_ | refine g_in_exit_ne (by decide) ?_ | refine g_seq ?_ | refine g_region ?_ | refine g_block ?_ | refine g_ret ?_ | refine g_return_n ?_ | refine g_exit ?_ | refine g_skip ?_)
          refine o_move ?_
          refine o_peql rfl ?_
          first | refine g_endt ?_ | refine g_end ?_
          first | refine g_seq (g_cond_t rfl (by first | rfl | (simp; done) | (simp; omega) | (simp; assumption)) ?_) | refine g_cond_t rfl (by first | rfl | (simp; done) | (simp; omega) | (simp; assumption)) ?_
          refine shutW w xs yw hw ?_
          refine shutR (gs := gs) (xs := xs) r m z i (k - 1) none [] (offA S e 1 3) (e - 1) rest ys f (hP.shut fun b hb => absurd hb (hno b)) rfl rfl ?_
          repeat (first | refine g_endt ?_ | refine g_end ?_ | refine g_then ?_ | refine g_in_normal ?_ | refine g_then_ret ?_ | refine g_in_ret ?_ | refine g_then_exit ?_ | refine g_in_exit rfl ?_ | refine g_in_exit_ne (by decide) ?_ | refine g_seq ?_ | refine g_region ?_ | refine g_block ?_ | refine g_ret ?_ | refine g_return_n ?_ | refine g_exit ?_ | refine g_skip ?_)
          exact g_meetsD ⟨k - 1, by omega⟩ (by show k - 1 < k; omega) (Sat.mem (by repeat (first | exact trivial | refine And.intro rfl ?_)))
        | some p =>
          obtain ⟨b, zs, rfl, hperm, hne⟩ := hw.get hgm
          repeat (first | refine g_endt ?_ | refine g_end ?_ | refine g_then ?_ | refine g_in_normal ?_ | refine g_then_ret ?_ | refine g_in_ret ?_ | refine g_then_exit ?_ | refine g_in_exit rfl ?_ | refine g_in_exit_ne (by decide) ?_ | refine g_seq ?_ | refine g_region ?_ | refine g_block ?_ | refine g_ret ?_ | refine g_return_n ?_ | refine g_exit ?_ | refine g_skip ?_)
          refine o_move ?_
          first | refine o_load1 rfl rfl ?_ | refine o_loadE0 rfl (by assumption) rfl ?_ | refine o_loadE1 rfl (by assumption) rfl ?_
          refine o_indexR (ys := s :: rest) (i := 0) rfl rfl rfl (by simp) rfl rfl ?_
          refine o_loadE (ys := s :: rest) (i := 0) rfl rfl rfl ?_
          refine o_call (GetNMSY_spec w yw s hw.srt (by omega) hgm) rfl rfl ?_
          rintro _ _ ⟨rfl, rfl⟩
          refine o_move ?_
          refine o_extract rfl rfl ?_
          refine o_extract rfl rfl ?_
          refine o_assign ?_
          refine o_assign ?_
          first | refine g_endt ?_ | refine g_end ?_
          repeat (first | refine g_endt ?_ | refine g_end ?_ | refine g_then ?_ | refine g_in_normal ?_ | refine g_then_ret ?_ | refine g_in_ret ?_ | refine g_then_exit ?_ | refine g_in_exit rfl ?_ | refine g_in_exit_ne (by decide) ?_ | refine g_seq ?_ | refine g_region ?_ | refine g_block ?_ | refine g_ret ?_ | refine g_return_n ?_ | refine g_exit ?_ | refine g_skip ?_)
          first | refine o_load1 rfl rfl ?_ | refine o_loadE0 rfl (by assumption) rfl ?_ | refine o_loadE1 rfl (by assumption) rfl ?_
          refine o_fromP (k := 1) rfl rfl rfl (by simp) ?_
          refine o_store (v := .slice (offA S e 1 3) rest.length (e - 1)) rfl rfl rfl rfl rfl ?_
          first | refine g_endt ?_ | refine g_end ?_
          refine G.norm r #[.slice (offA S e 1 3) rest.length (e - 1)] rfl ?_
          refine G.qdrop (e := 31) (enc := encS) (sz := 3) (c := e) (S := S) (xs := s :: rest) 1 (by simp) ?_
          change G _ _ (qsl 31 encS 3 (offA S e 1 3) (e - 1) rest :: _) _
          repeat (first | refine g_endt ?_ | refine g_end ?_ | refine g_then ?_ | refine g_in_normal ?_ | refine g_then_ret ?_ | refine g_in_ret ?_ | refine g_then_exit ?_ | refine g_in_exit rfl ?_ | refine g_in_exit_ne (by decide) ?_ | refine g_seq ?_ | refine g_region ?_ | refine g_block ?_ | refine g_ret ?_ | refine g_return_n ?_ | refine g_exit ?_ | refine g_skip ?_)
          refine o_move ?_
          refine o_peql rfl ?_
          first | refine g_endt ?_ | refine g_end ?_
          first | refine g_seq (g_cond_f rfl (by first | rfl | (simp; done) | (simp; omega) | (simp; assumption)) ?_) | refine g_cond_f rfl (by first | rfl | (simp; done) | (simp; omega) | (simp; assumption)) ?_
          refine G.bopen (f := cellW xs) ⟨s, some b⟩ zs hperm ?_
          change G _ _ (SetASS b (vals xs s) :: _) _
          refine shutR (gs := gs) (xs := xs) r m z i (k - 1) (some s) [] (offA S e 1 3) (e - 1) rest ys f hP rfl rfl ?_
          repeat (first | refine g_endt ?_ | refine g_end ?_ | refine g_then ?_ | refine g_in_normal ?_ | refine g_then_ret ?_ | refine g_in_ret ?_ | refine g_then_exit ?_ | refine g_in_exit rfl ?_ | refine g_in_exit_ne (by decide) ?_ | refine g_seq ?_ | refine g_region ?_ | refine g_block ?_ | refine g_ret ?_ | refine g_return_n ?_ | refine g_exit ?_ | refine g_skip ?_)
          refine o_move ?_
          refine o_call (AllSS_spec b) rfl rfl ?_
          rintro _ _ ⟨bb, rfl, rfl⟩
          first | refine g_endt ?_ | refine g_end ?_
          repeat (first | refine g_endt ?_ | refine g_end ?_ | refine g_then ?_ | refine g_in_normal ?_ | refine g_then_ret ?_ | refine g_in_ret ?_ | refine g_then_exit ?_ | refine g_in_exit rfl ?_ | refine g_in_exit_ne (by decide) ?_ | refine g_seq ?_ | refine g_region ?_ | refine g_block ?_ | refine g_ret ?_ | refine g_return_n ?_ | refine g_exit ?_ | refine g_skip ?_)
          refine g_range (ps := [82]) (lb := [.pointer (some ⟨bb, 0, none⟩)]) (enc := SymD.enc') (xs := vals xs s) rfl
            (fun pre => RunP gs xs r m z i (k - 1) (some s) pre :: SetASS b (vals xs s) :: pblk bb (.cells #[.pointer (some ⟨b, 0, none⟩)] 103 (0, 0)) :: bigS zs (cellW xs) :: MapASY w yw :: cellsB c12 #[.int .i64 (i : Int)] 3 :: cellsB c5 #[.pointer (some ⟨m, 0, none⟩)] 93 :: cellsB c11 #[.pointer (some ⟨z, 0, none⟩)] 103 :: psl encS 3 A gs :: Ks)
            (fun _ _ => [pu False]) (fun K => All1SS_iter b bb (vals xs s) (by omega) _) (fun _ => rfl)
            (tk := (inferInstance : Take _ (RunP gs xs r m z i (k - 1) (some s) [] :: SetASS b (vals xs s) :: pblk bb (.cells #[.pointer (some ⟨b, 0, none⟩)] 103 (0, 0)) :: bigS zs (cellW xs) :: MapASY w yw :: cellsB c12 #[.int .i64 (i : Int)] 3 :: cellsB c5 #[.pointer (some ⟨m, 0, none⟩)] 93 :: cellsB c11 #[.pointer (some ⟨z, 0, none⟩)] 103 :: psl encS 3 A gs :: Ks) _)) ?_ ?_ ?_
          · clear hys hmu hR hP
            intro w0 F l rr pre v hp
            have hv : v ∈ vals xs s := hp.subset (by simp)
            have hop : v.kind = 1 → Hop xs s v := fun hk => by
              obtain ⟨el, he, h1, h2⟩ := (vals_mem xs s v).1 hv
              exact ⟨el, he, h1, h2, hk⟩
            repeat (first | refine g_endt ?_ | refine g_end ?_ | refine g_then ?_ | refine g_in_normal ?_ | refine g_then_ret ?_ | refine g_in_ret ?_ | refine g_then_exit ?_ | refine g_in_exit rfl ?_ | refine g_in_exit_ne (by decide) ?_ | refine g_seq ?_ | refine g_region ?_ | refine g_block ?_ | refine g_ret ?_ | refine g_return_n ?_ | refine g_exit ?_ | refine g_skip ?_)
            refine o_alloc fun c19 => ?_
            refine o_store (v := v.val) rfl rfl rfl rfl rfl ?_
            first | refine g_endt ?_ | refine g_end ?_
            refine G.norm c19 v.val.cells rfl ?_
            repeat (first | refine g_endt ?_ | refine g_end ?_ | refine g_then ?_ | refine g_in_normal ?_ | refine g_then_ret ?_ | refine g_in_ret ?_ | refine g_then_exit ?_ | refine g_in_exit rfl ?_ | refine g_in_exit_ne (by decide) ?_ | refine g_seq ?_ | refine g_region ?_ | refine g_block ?_ | refine g_ret ?_ | refine g_return_n ?_ | refine g_exit ?_ | refine g_skip ?_)
            refine g_begin ?_
            refine openR (gs := gs) (xs := xs) r m z i (k - 1) (some s) pre fun S2 e2 todo ys f hR => ?_
            have hys := hR.len
            have hmu := hR.mu
            have hks : Srt SymD.cmp (ys.map PgSI.k) := PgSI.srt_keys.1 hR.tab.srt
            have hkey := hR.tab.has_keys v
            by_cases hk1 : v.kind = 1
            · by_cases hf : f v = 0
              · skip
                repeat (first | refine g_endt ?_ | refine g_end ?_ | refine g_then ?_ | refine g_in_normal ?_ | refine g_then_ret ?_ | refine g_in_ret ?_ | refine g_then_exit ?_ | refine g_in_exit rfl ?_ | refine g_in_exit_ne (by decide) ?_ | refine g_seq ?_ | refine g_region ?_ | refine g_block ?_ | refine g_ret ?_ | refine g_return_n ?_ | refine g_exit ?_ | refine g_skip ?_)
                first | refine o_field rfl ?_ | refine o_fieldR rfl (by omega) ?_
                refine o_load1 (v := .int .i64 v.kind) rfl rfl ?_
                refine o_eql rfl rfl ?_
                rw [show (v.kind == 1) = true from by simpa using hk1]
                refine o_move ?_
                refine o_want rfl rfl rfl rfl rfl (o_load1 (v := .pointer (some ⟨z, 0, none⟩)) rfl rfl ?_)
                refine o_want rfl rfl rfl rfl rfl (o_loadN (v := v.val) rfl rfl rfl ?_)
                refine o_want rfl rfl rfl rfl rfl (o_call (PutCSS_spec z (ys.map PgSI.k) v hks (by simp; omega)) rfl rfl ?_)
                rintro _ _ ⟨rfl, rfl⟩
                first | refine o_pick_t rfl rfl ?_ | refine o_pick_f rfl rfl ?_
                first | refine g_endt ?_ | refine g_end ?_
                first | refine g_seq (g_cond_t rfl (by rw [hkey]; simp [hf]) ?_) | refine g_cond_t rfl (by rw [hkey]; simp [hf]) ?_
                repeat (first | refine g_endt ?_ | refine g_end ?_ | refine g_then ?_ | refine g_in_normal ?_ | refine g_then_ret ?_ | refine g_in_ret ?_ | refine g_then_exit ?_ | refine g_in_exit rfl ?_ | refine g_in_exit_ne (by decide) ?_ | refine g_seq ?_ | refine g_region ?_ | refine g_block ?_ | refine g_ret ?_ | refine g_return_n ?_ | refine g_exit ?_ | refine g_skip ?_)
                refine o_load1 (v := .pointer (some ⟨m, 0, none⟩)) rfl rfl ?_
                refine o_loadN (v := v.val) rfl rfl rfl ?_
                refine o_load1 (v := .int .i64 (i : Int)) rfl rfl ?_
                refine o_add (c := (i : Int) + 1) rfl rfl rfl (by omega) (by omega) ?_
                refine o_call (PutNMSI_spec m ys v ((i : Int) + 1) hR.tab.srt (by omega) (hasC_no hR.tab _ hf)) rfl rfl ?_
                rintro _ _ ⟨rfl, rfl⟩
                first | refine g_endt ?_ | refine g_end ?_
                repeat (first | refine g_endt ?_ | refine g_end ?_ | refine g_then ?_ | refine g_in_normal ?_ | refine g_then_ret ?_ | refine g_in_ret ?_ | refine g_then_exit ?_ | refine g_in_exit rfl ?_ | refine g_in_exit_ne (by decide) ?_ | refine g_seq ?_ | refine g_region ?_ | refine g_block ?_ | refine g_ret ?_ | refine g_return_n ?_ | refine g_exit ?_ | refine g_skip ?_)
                first | refine o_load1 rfl rfl ?_ | refine o_loadE0 rfl (by assumption) rfl ?_ | refine o_loadE1 rfl (by assumption) rfl ?_
                refine o_loadN (v := v.val) rfl rfl rfl ?_
                refine o_litP (e := 31) encS [v] (v).val.cells (fun w => by kernel_rfl) (by simp [encS]) (by simp [maxLen]) fun _ => ?_
                refine o_appendq (xs := todo) (ys := [v]) rfl rfl rfl rfl rfl (by decide) (by simp [maxLen]; omega) (by simp; omega) fun S3 e3 => ?_
                refine o_store (v := .slice S3 (todo.length + 1) e3) rfl rfl rfl rfl rfl ?_
                first | refine g_endt ?_ | refine g_end ?_
                refine G.norm r #[.slice S3 (todo.length + 1) e3] rfl ?_
                refine shutR (gs := gs) (xs := xs) r m z i (k - 1) (some s) (pre ++ [v]) S3 e3 (todo ++ [v]) (insC PgSI.cmp ys ⟨v, (i : Int) + 1⟩) (updF f v ((i : Int) + 1)) (hR.add hx (hop hk1) hf) (n := todo.length + 1) (by simp) (insC_keys ys v ((i : Int) + 1)).symm ?_
                repeat (first | refine g_endt ?_ | refine g_end ?_ | refine g_then ?_ | refine g_in_normal ?_ | refine g_then_ret ?_ | refine g_in_ret ?_ | refine g_then_exit ?_ | refine g_in_exit rfl ?_ | refine g_in_exit_ne (by decide) ?_ | refine g_seq ?_ | refine g_region ?_ | refine g_block ?_ | refine g_ret ?_ | refine g_return_n ?_ | refine g_exit ?_ | refine g_skip ?_)
                exact g_next
              · skip
                repeat (first | refine g_endt ?_ | refine g_end ?_ | refine g_then ?_ | refine g_in_normal ?_ | refine g_then_ret ?_ | refine g_in_ret ?_ | refine g_then_exit ?_ | refine g_in_exit rfl ?_ | refine g_in_exit_ne (by decide) ?_ | refine g_seq ?_ | refine g_region ?_ | refine g_block ?_ | refine g_ret ?_ | refine g_return_n ?_ | refine g_exit ?_ | refine g_skip ?_)
                first | refine o_field rfl ?_ | refine o_fieldR rfl (by omega) ?_
                refine o_load1 (v := .int .i64 v.kind) rfl rfl ?_
                refine o_eql rfl rfl ?_
                rw [show (v.kind == 1) = true from by simpa using hk1]
                refine o_move ?_
                refine o_want rfl rfl rfl rfl rfl (o_load1 (v := .pointer (some ⟨z, 0, none⟩)) rfl rfl ?_)
                refine o_want rfl rfl rfl rfl rfl (o_loadN (v := v.val) rfl rfl rfl ?_)
                refine o_want rfl rfl rfl rfl rfl (o_call (PutCSS_spec z (ys.map PgSI.k) v hks (by simp; omega)) rfl rfl ?_)
                rintro _ _ ⟨rfl, rfl⟩
                first | refine o_pick_t rfl rfl ?_ | refine o_pick_f rfl rfl ?_
                first | refine g_endt ?_ | refine g_end ?_
                first | refine g_seq (g_cond_f rfl (by rw [hkey]; simp [hf]) ?_) | refine g_cond_f rfl (by rw [hkey]; simp [hf]) ?_
                rw [insC_old (by rw [hkey]; simpa using hf)]
                refine shutR (gs := gs) (xs := xs) r m z i (k - 1) (some s) (pre ++ [v]) S2 e2 todo ys f (hR.next fun _ => hf) rfl rfl ?_
                repeat (first | refine g_endt ?_ | refine g_end ?_ | refine g_then ?_ | refine g_in_normal ?_ | refine g_then_ret ?_ | refine g_in_ret ?_ | refine g_then_exit ?_ | refine g_in_exit rfl ?_ | refine g_in_exit_ne (by decide) ?_ | refine g_seq ?_ | refine g_region ?_ | refine g_block ?_ | refine g_ret ?_ | refine g_return_n ?_ | refine g_exit ?_ | refine g_skip ?_)
                exact g_next
            · skip
              repeat (first | refine g_endt ?_ | refine g_end ?_ | refine g_then ?_ | refine g_in_normal ?_ | refine g_then_ret ?_ | refine g_in_ret ?_ | refine g_then_exit ?_ | refine g_in_exit rfl ?_ | refine g_in_exit_ne (by decide) ?_ | refine g_seq ?_ | refine g_region ?_ | refine g_block ?_ | refine g_ret ?_ | refine g_return_n ?_ | refine g_exit ?_ | refine g_skip ?_)
              first | refine o_field rfl ?_ | refine o_fieldR rfl (by omega) ?_
              refine o_load1 (v := .int .i64 v.kind) rfl rfl ?_
              refine o_eql rfl rfl ?_
              rw [show (v.kind == 1) = false from by simpa using hk1]
              refine o_move ?_
              first | (refine o_want rfl rfl rfl rfl rfl ?_; (first | refine o_load1 rfl rfl ?_ | refine o_loadE0 rfl (by assumption) rfl ?_ | refine o_loadE1 rfl (by assumption) rfl ?_)) | refine o_unwanted rfl rfl rfl rfl rfl ?_ | refine o_undef rfl rfl rfl ?_
              first | (refine o_want rfl rfl rfl rfl rfl ?_; (first | refine o_loadN rfl rfl rfl ?_ | refine o_loadE rfl rfl (by assumption) ?_ | refine o_loadEN rfl (by assumption) rfl rfl ?_)) | refine o_unwanted rfl rfl rfl rfl rfl ?_ | refine o_undef rfl rfl rfl ?_
              first | refine o_unwanted rfl rfl rfl rfl rfl ?_ | refine o_undef rfl rfl rfl ?_
              first | refine o_pick_t rfl rfl ?_ | refine o_pick_f rfl rfl ?_
              first | refine g_endt ?_ | refine g_end ?_
              first | refine g_seq (g_cond_f rfl (by first | rfl | (simp; done) | (simp; omega) | (simp; assumption)) ?_) | refine g_cond_f rfl (by first | rfl | (simp; done) | (simp; omega) | (simp; assumption)) ?_
              refine shutR (gs := gs) (xs := xs) r m z i (k - 1) (some s) (pre ++ [v]) S2 e2 todo ys f (hR.next fun e => absurd e hk1) rfl rfl ?_
              repeat (first | refine g_endt ?_ | refine g_end ?_ | refine g_then ?_ | refine g_in_normal ?_ | refine g_then_ret ?_ | refine g_in_ret ?_ | refine g_then_exit ?_ | refine g_in_exit rfl ?_ | refine g_in_exit_ne (by decide) ?_ | refine g_seq ?_ | refine g_region ?_ | refine g_block ?_ | refine g_ret ?_ | refine g_return_n ?_ | refine g_exit ?_ | refine g_skip ?_)
              exact g_next
          · clear hys hmu hR hP
            intro D
            refine openR (gs := gs) (xs := xs) r m z i (k - 1) (some s) (vals xs s) fun S2 e2 todo ys f hR => ?_
            refine shutR (gs := gs) (xs := xs) r m z i (k - 1) none [] S2 e2 todo ys f (hR.shut fun b ⟨el, he, h1, h2, _⟩ => (vals_mem xs s b).2 ⟨el, he, h1, h2⟩) rfl rfl ?_
            refine G.bshut yw (cellW xs) ⟨s, some b⟩ zs hperm.symm (tk := (inferInstance : Take _ [SetASS b (vals xs s), bigS zs (cellW xs)] _)) ?_
            refine shutW w xs yw hw ?_
            repeat (first | refine g_endt ?_ | refine g_end ?_ | refine g_then ?_ | refine g_in_normal ?_ | refine g_then_ret ?_ | refine g_in_ret ?_ | refine g_then_exit ?_ | refine g_in_exit rfl ?_ | refine g_in_exit_ne (by decide) ?_ | refine g_seq ?_ | refine g_region ?_ | refine g_block ?_ | refine g_ret ?_ | refine g_return_n ?_ | refine g_exit ?_ | refine g_skip ?_)
            exact g_meetsD ⟨k - 1, by omega⟩ (by show k - 1 < k; omega) (Sat.mem (by repeat (first | exact trivial | refine And.intro rfl ?_)))
          · intro D c pre hp
            exact G.pu fun h => h.elim
    · first | refine g_seq (g_cond_t rfl (by simpa using hf) ?_) | refine g_cond_t rfl (by simpa using hf) ?_
      repeat (first | refine g_endt ?_ | refine g_end ?_ | refine g_then ?_ | refine g_in_normal ?_ | refine g_then_ret ?_ | refine g_in_ret ?_ | refine g_then_exit ?_ | refine g_in_exit rfl ?_ | refine g_in_exit_ne (by decide) ?_ | refine g_seq ?_ | refine g_region ?_ | refine g_block ?_ | refine g_ret ?_ | refine g_return_n ?_ | refine g_exit ?_ | refine g_skip ?_)
      refine o_add (c := ((i + 1 : Nat) : Int)) rfl rfl (by omega) (by omega) (by omega) ?_
      refine o_move ?_
      first | refine g_endt ?_ | refine g_end ?_
      repeat (first | refine g_endt ?_ | refine g_end ?_ | refine g_then ?_ | refine g_in_normal ?_ | refine g_then_ret ?_ | refine g_in_ret ?_ | refine g_then_exit ?_ | refine g_in_exit rfl ?_ | refine g_in_exit_ne (by decide) ?_ | refine g_seq ?_ | refine g_region ?_ | refine g_block ?_ | refine g_ret ?_ | refine g_return_n ?_ | refine g_exit ?_ | refine g_skip ?_)
      exact g_meetsD (⟨(i + 1, ys, f), hI.skip hx h hf⟩) (by first | exact trivial | (dsimp only; omega)) (Sat.mem (by repeat (first | exact trivial | refine And.intro rfl ?_)))
  · first | refine g_seq (g_cond_f rfl (by simp; omega) ?_) | refine g_cond_f rfl (by simp; omega) ?_
    have hin : i = gs.length := by have := hI.le; omega
    subst hin
    have he := hI.st.all
    have htab : TabP ys (rlev gs xs) := ⟨hI.tab.srt, hI.tab.nz, fun s => by rw [hI.tab.all s, he s]⟩
    repeat (first | refine g_endt ?_ | refine g_end ?_ | refine g_then ?_ | refine g_in_normal ?_ | refine g_then_ret ?_ | refine g_in_ret ?_ | refine g_then_exit ?_ | refine g_in_exit rfl ?_ | refine g_in_exit_ne (by decide) ?_ | refine g_seq ?_ | refine g_region ?_ | refine g_block ?_ | refine g_ret ?_ | refine g_return_n ?_ | refine g_exit ?_ | refine g_skip ?_)
    refine o_load1 (v := .pointer (some ⟨m, 0, none⟩)) rfl rfl ?_
    refine o_assign ?_
    first | refine g_endt ?_ | refine g_end ?_
    repeat (first | refine g_endt ?_ | refine g_end ?_ | refine g_then ?_ | refine g_in_normal ?_ | refine g_then_ret ?_ | refine g_in_ret ?_ | refine g_then_exit ?_ | refine g_in_exit rfl ?_ | refine g_in_exit_ne (by decide) ?_ | refine g_seq ?_ | refine g_region ?_ | refine g_block ?_ | refine g_ret ?_ | refine g_return_n ?_ | refine g_exit ?_ | refine g_skip ?_)
    exact ret1 (K := MapASI m ys :: psl encS 3 A gs :: Ks) rfl (resT rfl) ⟨m, ys, rfl, htab, by omega, rfl⟩
end Go.Proofs.Ytonjhakjnopbjaa
/- The level of one symbol; the elements whose Id has a level. -/
namespace Go.Proofs.Ytonjhakjnopbjaa
open Go Go.Sl
attribute [local irreducible] Code.wpIn roundPost bodyPostM runL Ret Meets Begin

/-- The elements whose Id has a level. -/
noncomputable def lvF (gs : List SymD) (xs pre : List ElemD) : List ElemD := pre.filter fun e => decide (rlev gs xs e.id ≠ 0)
noncomputable def liveF (gs : List SymD) (xs : List ElemD) : List ElemD := lvF gs xs xs
theorem lvF_yes {gs : List SymD} {xs pre : List ElemD} {x : ElemD} (h : rlev gs xs x.id ≠ 0) : lvF gs xs (pre ++ [x]) = lvF gs xs pre ++ [x] := by
  unfold lvF; rw [List.filter_append]; simp [h]
theorem lvF_no {gs : List SymD} {xs pre : List ElemD} {x : ElemD} (h : rlev gs xs x.id = 0) : lvF gs xs (pre ++ [x]) = lvF gs xs pre := by
  unfold lvF; rw [List.filter_append]; simp [h]
theorem lvF_pre {gs : List SymD} {xs pre : List ElemD} (h : pre <+: xs) : lvF gs xs pre <+: liveF gs xs := h.filter _
theorem Live_spec (A : Option Addr) (n c : Nat) (gs : List SymD) (hg : gs.length = n) (hn : n ≤ 10000) (gf : FuncId) (lb : List Value) :
    Ctr Try.prog 51 [.slice A n c, .func (.func gf) #[] lb.toArray] [psl encS 3 A gs]
      (fun v M => ∃ b3 b5 S e, v = .func (.func 62) #[] #[.pointer (some ⟨b3, 0, none⟩), .pointer (some ⟨b5, 0, none⟩)] ∧
        M = [pblk b3 (.cells #[.func (.func gf) #[] lb.toArray] 28 (0, 0)), pblk b5 (.cells #[.slice S n e] 58 (0, 0)), psl encS 3 S gs]) := by
  refine spec_of Try.func51 rfl Try.ntmps51 rfl fun w0 F => ?_
  -- ponder/reach.Live
  repeat (first | refine g_endt ?_ | refine g_end ?_ | refine g_then ?_ | refine g_in_normal ?_ | refine g_then_ret ?_ | refine g_in_ret ?_ | refine g_then_exit ?_ | refine g_in_exit rfl ?_ | refine g_in_exit_ne (by decide) ?_ | refine g_seq ?_ | refine g_region ?_ | refine g_block ?_ | refine g_ret ?_ | refine g_return_n ?_ | refine g_exit ?_ | refine g_skip ?_)
  refine o_boxc #[.func (.func gf) #[] lb.toArray] rfl rfl fun b3 => ?_
  refine o_assign ?_
  first | refine g_endt ?_ | refine g_end ?_
  refine G.freeze ?_
  refine G.nil_slice 31 encS 3 ?_
  repeat (first | refine g_endt ?_ | refine g_end ?_ | refine g_then ?_ | refine g_in_normal ?_ | refine g_then_ret ?_ | refine g_in_ret ?_ | refine g_then_exit ?_ | refine g_in_exit rfl ?_ | refine g_in_exit_ne (by decide) ?_ | refine g_seq ?_ | refine g_region ?_ | refine g_block ?_ | refine g_ret ?_ | refine g_return_n ?_ | refine g_exit ?_ | refine g_skip ?_)
  refine o_move ?_
  refine o_append (xs := []) (ys := gs) rfl rfl rfl rfl hg (fun _ => .inr trivial) (by simp [maxLen]; omega) (by simp; omega) fun S e => ?_
  refine o_alloc fun b5 => ?_
  refine o_store (v := .slice S (0 + gs.length) e) rfl rfl rfl rfl rfl ?_
  first | refine g_endt ?_ | refine g_end ?_
  refine G.norm b5 #[.slice S n e] (by rw [← hg, Nat.zero_add]; rfl) ?_
  rw [List.nil_append]
  refine G.bring [osl 31 encS 3 S e gs] ?_
  refine G.frz ?_
  refine G.bring [cellsB b5 #[.slice S n e] 58] ?_
  refine G.freeze ?_
  change G _ _ [pblk b5 (.cells #[.slice S n e] 58 (0, 0)), psl encS 3 S gs, pblk b3 (.cells #[.func (.func gf) #[] lb.toArray] 28 (0, 0)), psl encS 3 A gs] _
  repeat (first | refine g_endt ?_ | refine g_end ?_ | refine g_then ?_ | refine g_in_normal ?_ | refine g_then_ret ?_ | refine g_in_ret ?_ | refine g_then_exit ?_ | refine g_in_exit rfl ?_ | refine g_in_exit_ne (by decide) ?_ | refine g_seq ?_ | refine g_region ?_ | refine g_block ?_ | refine g_ret ?_ | refine g_return_n ?_ | refine g_exit ?_ | refine g_skip ?_)
  refine o_func ?_
  refine o_assign ?_
  first | refine g_endt ?_ | refine g_end ?_
  repeat (first | refine g_endt ?_ | refine g_end ?_ | refine g_then ?_ | refine g_in_normal ?_ | refine g_then_ret ?_ | refine g_in_ret ?_ | refine g_then_exit ?_ | refine g_in_exit rfl ?_ | refine g_in_exit_ne (by decide) ?_ | refine g_seq ?_ | refine g_region ?_ | refine g_block ?_ | refine g_ret ?_ | refine g_return_n ?_ | refine g_exit ?_ | refine g_skip ?_)
  exact ret1 (K := [pblk b3 (.cells #[.func (.func gf) #[] lb.toArray] 28 (0, 0)), pblk b5 (.cells #[.slice S n e] 58 (0, 0)), psl encS 3 S gs]) rfl (resT rfl) ⟨b3, b5, S, e, rfl, rfl⟩
set_option maxHeartbeats 2000000 in
theorem Live1_iter (b3 b5 : Nat) (S : Option Addr) (n e : Nat) (gs : List SymD) (hg : gs.length = n) (hn : n ≤ 10000) (gf : FuncId) (lb : List Value) (xs : List ElemD) (hl : xs.length ≤ 10000) (Ks : List SProp) [En Try.prog gf] (hit : ∀ K, Iter Try.prog gf lb encVE xs (K ++ Ks)) (J0 : List SProp)
    (hJ0 : Ent (sl J0) (star (sl (pblk b3 (.cells #[.func (.func gf) #[] lb.toArray] 28 (0, 0)) :: pblk b5 (.cells #[.slice S n e] 58 (0, 0)) :: psl encS 3 S gs :: Ks)) (sl J0))) :
    Iter Try.prog 62 [.pointer (some ⟨b3, 0, none⟩), .pointer (some ⟨b5, 0, none⟩)] encVE (liveF gs xs) J0 := by
  intro l J Jx hJ hy
  subst hJ
  refine spec_of Try.func62 rfl Try.ntmps62 rfl fun w0 F => ?_
  refine G.ent (L' := (pblk b3 (.cells #[.func (.func gf) #[] lb.toArray] 28 (0, 0)) :: pblk b5 (.cells #[.slice S n e] 58 (0, 0)) :: psl encS 3 S gs :: Ks) ++ J []) (hJ0.trans (sl_append_of _ _)) ?_
  -- ponder/reach.Live$1
  repeat (first | refine g_endt ?_ | refine g_end ?_ | refine g_then ?_ | refine g_in_normal ?_ | refine g_then_ret ?_ | refine g_in_ret ?_ | refine g_then_exit ?_ | refine g_in_exit rfl ?_ | refine g_in_exit_ne (by decide) ?_ | refine g_seq ?_ | refine g_region ?_ | refine g_block ?_ | refine g_ret ?_ | refine g_return_n ?_ | refine g_exit ?_ | refine g_skip ?_)
  refine o_boxc #[.func (.yield l) #[] #[]] rfl rfl fun q => ?_
  first | refine g_endt ?_ | refine g_end ?_
  repeat (first | refine g_endt ?_ | refine g_end ?_ | refine g_then ?_ | refine g_in_normal ?_ | refine g_then_ret ?_ | refine g_in_ret ?_ | refine g_then_exit ?_ | refine g_in_exit rfl ?_ | refine g_in_exit_ne (by decide) ?_ | refine g_seq ?_ | refine g_region ?_ | refine g_block ?_ | refine g_ret ?_ | refine g_return_n ?_ | refine g_exit ?_ | refine g_skip ?_)
  refine o_load1 (v := .func (.func gf) #[] lb.toArray) rfl rfl ?_
  refine o_fnil rfl (fun w => by kernel_rfl) (fun w => by kernel_rfl) ?_
  first | refine g_endt ?_ | refine g_end ?_
  first | refine g_seq (g_cond_f rfl (by first | rfl | (simp; done) | (simp; omega) | (simp; assumption)) ?_) | refine g_cond_f rfl (by first | rfl | (simp; done) | (simp; omega) | (simp; assumption)) ?_
  repeat (first | refine g_endt ?_ | refine g_end ?_ | refine g_then ?_ | refine g_in_normal ?_ | refine g_then_ret ?_ | refine g_in_ret ?_ | refine g_then_exit ?_ | refine g_in_exit rfl ?_ | refine g_in_exit_ne (by decide) ?_ | refine g_seq ?_ | refine g_region ?_ | refine g_block ?_ | refine g_ret ?_ | refine g_return_n ?_ | refine g_exit ?_ | refine g_skip ?_)
  refine o_load1 (v := .slice S n e) rfl rfl ?_
  refine o_load1 (v := .func (.func gf) #[] lb.toArray) rfl rfl ?_
  refine o_call (Levels_spec S n e gs hg hn gf lb xs hl Ks hit) rfl rfl ?_
  rintro _ _ ⟨m, ys, rfl, htab, hlen, rfl⟩
  refine o_alloc fun c4 => ?_
  refine o_store (v := .pointer (some ⟨m, 0, none⟩)) rfl rfl rfl rfl rfl ?_
  first | refine g_endt ?_ | refine g_end ?_
  refine G.norm c4 #[.pointer (some ⟨m, 0, none⟩)] rfl ?_
  repeat (first | refine g_endt ?_ | refine g_end ?_ | refine g_then ?_ | refine g_in_normal ?_ | refine g_then_ret ?_ | refine g_in_ret ?_ | refine g_then_exit ?_ | refine g_in_exit rfl ?_ | refine g_in_exit_ne (by decide) ?_ | refine g_seq ?_ | refine g_region ?_ | refine g_block ?_ | refine g_ret ?_ | refine g_return_n ?_ | refine g_exit ?_ | refine g_skip ?_)
  refine o_load1 (v := .func (.func gf) #[] lb.toArray) rfl rfl ?_
  first | refine g_endt ?_ | refine g_end ?_
  repeat (first | refine g_endt ?_ | refine g_end ?_ | refine g_then ?_ | refine g_in_normal ?_ | refine g_then_ret ?_ | refine g_in_ret ?_ | refine g_then_exit ?_ | refine g_in_exit rfl ?_ | refine g_in_exit_ne (by decide) ?_ | refine g_seq ?_ | refine g_region ?_ | refine g_block ?_ | refine g_ret ?_ | refine g_return_n ?_ | refine g_exit ?_ | refine g_skip ?_)
  refine g_range (ps := [14]) (enc := encVE) (xs := xs) rfl
    (fun pre => (cellsB q #[.func (.yield l) #[] #[]] 66 :: cellsB c4 #[.pointer (some ⟨m, 0, none⟩)] 93 :: MapASI m ys :: J (lvF gs xs pre)) ++ Ks)
    (fun c pre => pu (c = .ret) :: Jx (lvF gs xs pre))
    (fun K => hit (K :: cellsB q #[.func (.yield l) #[] #[]] 66 :: cellsB c4 #[.pointer (some ⟨m, 0, none⟩)] 93 :: MapASI m ys :: J [])) (fun _ => rfl)
    (tk := (inferInstance : Take _ (cellsB q #[.func (.yield l) #[] #[]] 66 :: cellsB c4 #[.pointer (some ⟨m, 0, none⟩)] 93 :: MapASI m ys :: (J [] ++ Ks)) _)) ?_ ?_ ?_
  · intro w0 F l' r pre x hp
    have hpf := lvF_pre (gs := gs) hp
    repeat (first | refine g_endt ?_ | refine g_end ?_ | refine g_then ?_ | refine g_in_normal ?_ | refine g_then_ret ?_ | refine g_in_ret ?_ | refine g_then_exit ?_ | refine g_in_exit rfl ?_ | refine g_in_exit_ne (by decide) ?_ | refine g_seq ?_ | refine g_region ?_ | refine g_block ?_ | refine g_ret ?_ | refine g_return_n ?_ | refine g_exit ?_ | refine g_skip ?_)
    refine o_alloc fun c5 => ?_
    refine o_store (v := x.val) rfl rfl rfl rfl rfl ?_
    first | refine g_endt ?_ | refine g_end ?_
    refine G.norm c5 x.val.cells rfl ?_
    repeat (first | refine g_endt ?_ | refine g_end ?_ | refine g_then ?_ | refine g_in_normal ?_ | refine g_then_ret ?_ | refine g_in_ret ?_ | refine g_then_exit ?_ | refine g_in_exit rfl ?_ | refine g_in_exit_ne (by decide) ?_ | refine g_seq ?_ | refine g_region ?_ | refine g_block ?_ | refine g_ret ?_ | refine g_return_n ?_ | refine g_exit ?_ | refine g_skip ?_)
    refine g_begin ?_
    by_cases hf : rlev gs xs x.id ≠ 0
    · have hsn := lvF_yes (pre := pre) hf
      rw [hsn] at hpf
      repeat (first | refine g_endt ?_ | refine g_end ?_ | refine g_then ?_ | refine g_in_normal ?_ | refine g_then_ret ?_ | refine g_in_ret ?_ | refine g_then_exit ?_ | refine g_in_exit rfl ?_ | refine g_in_exit_ne (by decide) ?_ | refine g_seq ?_ | refine g_region ?_ | refine g_block ?_ | refine g_ret ?_ | refine g_return_n ?_ | refine g_exit ?_ | refine g_skip ?_)
      refine o_load1 (v := .pointer (some ⟨m, 0, none⟩)) rfl rfl ?_
      first | refine o_field rfl ?_ | refine o_fieldR rfl (by omega) ?_
      refine o_loadN (v := x.id.val) rfl rfl rfl ?_
      refine o_call (GetLv_spec m ys (rlev gs xs) x.id htab (by omega)) rfl rfl ?_
      rintro _ _ ⟨rfl, rfl⟩
      refine o_move ?_
      refine o_extract rfl rfl ?_
      refine o_extract rfl rfl ?_
      refine o_assign ?_
      refine o_assign ?_
      first | refine g_endt ?_ | refine g_end ?_
      rw [decide_eq_true hf]
      repeat (first | refine g_endt ?_ | refine g_end ?_ | refine g_then ?_ | refine g_in_normal ?_ | refine g_then_ret ?_ | refine g_in_ret ?_ | refine g_then_exit ?_ | refine g_in_exit rfl ?_ | refine g_in_exit_ne (by decide) ?_ | refine g_seq ?_ | refine g_region ?_ | refine g_block ?_ | refine g_ret ?_ | refine g_return_n ?_ | refine g_exit ?_ | refine g_skip ?_)
      refine o_move ?_
      refine o_move ?_
      refine o_want rfl rfl rfl rfl rfl (o_load1 (v := .func (.yield l) #[] #[]) rfl rfl ?_)
      refine o_want rfl rfl rfl rfl rfl (o_loadN (v := x.val) rfl rfl rfl ?_)
      refine o_want rfl rfl rfl rfl rfl (o_yield (hy (lvF gs xs pre) x hpf) rfl rfl ?_ ?_)
      · refine o_want rfl rfl rfl rfl rfl (o_not rfl ?_)
        refine o_pick_t rfl rfl ?_
        refine g_endt ?_
        first | refine g_seq (g_cond_f rfl (by first | rfl | (simp; done) | (simp; omega) | (simp; assumption)) ?_) | refine g_cond_f rfl (by first | rfl | (simp; done) | (simp; omega) | (simp; assumption)) ?_
        repeat (first | refine g_endt ?_ | refine g_end ?_ | refine g_then ?_ | refine g_in_normal ?_ | refine g_then_ret ?_ | refine g_in_ret ?_ | refine g_then_exit ?_ | refine g_in_exit rfl ?_ | refine g_in_exit_ne (by decide) ?_ | refine g_seq ?_ | refine g_region ?_ | refine g_block ?_ | refine g_ret ?_ | refine g_return_n ?_ | refine g_exit ?_ | refine g_skip ?_)
        exact g_next (tk := by
          show Take _ ((cellsB q #[.func (.yield l) #[] #[]] 66 :: cellsB c4 #[.pointer (some ⟨m, 0, none⟩)] 93 :: MapASI m ys :: J (lvF gs xs (pre ++ [x]))) ++ Ks) _
          rw [hsn]
          infer_instance)
      · refine o_want rfl rfl rfl rfl rfl (o_not rfl ?_)
        refine o_pick_t rfl rfl ?_
        refine g_endt ?_
        first | refine g_seq (g_cond_t rfl (by first | rfl | (simp; done) | (simp; omega) | (simp; assumption)) ?_) | refine g_cond_t rfl (by first | rfl | (simp; done) | (simp; omega) | (simp; assumption)) ?_
        repeat (first | refine g_endt ?_ | refine g_end ?_ | refine g_then ?_ | refine g_in_normal ?_ | refine g_then_ret ?_ | refine g_in_ret ?_ | refine g_then_exit ?_ | refine g_in_exit rfl ?_ | refine g_in_exit_ne (by decide) ?_ | refine g_seq ?_ | refine g_region ?_ | refine g_block ?_ | refine g_ret ?_ | refine g_return_n ?_ | refine g_exit ?_ | refine g_skip ?_)
        refine G.pu_in (q := Code.ret = Code.ret) rfl ?_
        exact g_leave_ret (tk := by
          show Take _ (pu (Code.ret = Code.ret) :: Jx (lvF gs xs (pre ++ [x]))) _
          rw [hsn]
          infer_instance)
    · have hf0 : rlev gs xs x.id = 0 := by omega
      have hsn := lvF_no (pre := pre) hf0
      repeat (first | refine g_endt ?_ | refine g_end ?_ | refine g_then ?_ | refine g_in_normal ?_ | refine g_then_ret ?_ | refine g_in_ret ?_ | refine g_then_exit ?_ | refine g_in_exit rfl ?_ | refine g_in_exit_ne (by decide) ?_ | refine g_seq ?_ | refine g_region ?_ | refine g_block ?_ | refine g_ret ?_ | refine g_return_n ?_ | refine g_exit ?_ | refine g_skip ?_)
      refine o_load1 (v := .pointer (some ⟨m, 0, none⟩)) rfl rfl ?_
      first | refine o_field rfl ?_ | refine o_fieldR rfl (by omega) ?_
      refine o_loadN (v := x.id.val) rfl rfl rfl ?_
      refine o_call (GetLv_spec m ys (rlev gs xs) x.id htab (by omega)) rfl rfl ?_
      rintro _ _ ⟨rfl, rfl⟩
      refine o_move ?_
      refine o_extract rfl rfl ?_
      refine o_extract rfl rfl ?_
      refine o_assign ?_
      refine o_assign ?_
      first | refine g_endt ?_ | refine g_end ?_
      rw [show decide (rlev gs xs x.id ≠ 0) = false from decide_eq_false hf]
      repeat (first | refine g_endt ?_ | refine g_end ?_ | refine g_then ?_ | refine g_in_normal ?_ | refine g_then_ret ?_ | refine g_in_ret ?_ | refine g_then_exit ?_ | refine g_in_exit rfl ?_ | refine g_in_exit_ne (by decide) ?_ | refine g_seq ?_ | refine g_region ?_ | refine g_block ?_ | refine g_ret ?_ | refine g_return_n ?_ | refine g_exit ?_ | refine g_skip ?_)
      refine o_move ?_
      refine o_move ?_
      first | refine o_unwanted rfl rfl rfl rfl rfl ?_ | refine o_undef rfl rfl rfl ?_
      first | refine o_unwanted rfl rfl rfl rfl rfl ?_ | refine o_undef rfl rfl rfl ?_
      first | refine o_unwanted rfl rfl rfl rfl rfl ?_ | refine o_undef rfl rfl rfl ?_
      first | (refine o_want rfl rfl rfl rfl rfl ?_; refine o_not rfl ?_) | refine o_unwanted rfl rfl rfl rfl rfl ?_ | refine o_undef rfl rfl rfl ?_
      first | refine o_pick_t rfl rfl ?_ | refine o_pick_f rfl rfl ?_
      first | refine g_endt ?_ | refine g_end ?_
      first | refine g_seq (g_cond_f rfl (by first | rfl | (simp; done) | (simp; omega) | (simp; assumption)) ?_) | refine g_cond_f rfl (by first | rfl | (simp; done) | (simp; omega) | (simp; assumption)) ?_
      repeat (first | refine g_endt ?_ | refine g_end ?_ | refine g_then ?_ | refine g_in_normal ?_ | refine g_then_ret ?_ | refine g_in_ret ?_ | refine g_then_exit ?_ | refine g_in_exit rfl ?_ | refine g_in_exit_ne (by decide) ?_ | refine g_seq ?_ | refine g_region ?_ | refine g_block ?_ | refine g_ret ?_ | refine g_return_n ?_ | refine g_exit ?_ | refine g_skip ?_)
      exact g_next (tk := by
        show Take _ ((cellsB q #[.func (.yield l) #[] #[]] 66 :: cellsB c4 #[.pointer (some ⟨m, 0, none⟩)] 93 :: MapASI m ys :: J (lvF gs xs (pre ++ [x]))) ++ Ks) _
        rw [hsn]
        infer_instance)
  · intro D
    repeat (first | refine g_endt ?_ | refine g_end ?_ | refine g_then ?_ | refine g_in_normal ?_ | refine g_then_ret ?_ | refine g_in_ret ?_ | refine g_then_exit ?_ | refine g_in_exit rfl ?_ | refine g_in_exit_ne (by decide) ?_ | refine g_seq ?_ | refine g_region ?_ | refine g_block ?_ | refine g_ret ?_ | refine g_return_n ?_ | refine g_exit ?_ | refine g_skip ?_)
    exact ret0 (K := J (lvF gs xs xs)) rfl (.inl rfl)
  · intro D c pre hp
    refine G.pu fun h => ?_
    subst h
    repeat (first | refine g_endt ?_ | refine g_end ?_ | refine g_then ?_ | refine g_in_normal ?_ | refine g_then_ret ?_ | refine g_in_ret ?_ | refine g_then_exit ?_ | refine g_in_exit rfl ?_ | refine g_in_exit_ne (by decide) ?_ | refine g_seq ?_ | refine g_region ?_ | refine g_block ?_ | refine g_ret ?_ | refine g_return_n ?_ | refine g_exit ?_ | refine g_skip ?_)
    exact ret0 (K := Jx (lvF gs xs pre)) rfl (.inr ⟨lvF gs xs pre, lvF_pre hp, rfl⟩)
end Go.Proofs.Ytonjhakjnopbjaa
/- The reference's look at levels and at goals. -/
namespace Go.Proofs.Ytonjhakjnopbjaa
open Go Go.Sl
attribute [local irreducible] Code.wpIn roundPost bodyPostM runL Ret Meets Begin

theorem ofL_take {out : List LvD} {s : SymD} {i : Nat} {p : LvD} (hp : out[i]? = some p) (hb : p.s.beq s = true) (h : ∀ (j : Nat) (q : LvD), j < i → out[j]? = some q → q.s.beq s = false) : ofL out s = p.n := by
  unfold ofL
  have hsp : out = out.take i ++ p :: out.drop (i + 1) := by
    have hlt := (List.getElem?_eq_some_iff.1 hp).1
    conv => lhs; rw [← List.take_append_drop i out]
    rw [List.drop_eq_getElem_cons hlt]
    rw [List.getElem?_eq_getElem hlt] at hp
    cases hp; rfl
  rw [hsp, List.find?_append, List.find?_eq_none.2 (fun q hq => ?_)]
  · simp [hb]
  · obtain ⟨j, hj⟩ := List.mem_iff_getElem?.1 hq
    rw [List.getElem?_take] at hj
    split at hj
    · rename_i hji; rw [h j q hji hj]; simp
    · cases hj
theorem ofL_none {out : List LvD} {s : SymD} (h : ∀ (j : Nat) (q : LvD), j < out.length → out[j]? = some q → q.s.beq s = false) : ofL out s = 0 := by
  unfold ofL
  rw [List.find?_eq_none.2 (fun q hq => ?_)]
  · rfl
  · obtain ⟨j, hj⟩ := List.mem_iff_getElem?.1 hq
    rw [h j q (List.getElem?_eq_some_iff.1 hj).1 hj]; simp
theorem Of10_spec (X : SProp) (A : Option Addr) (n c : Nat) (out : List LvD) (s : SymD) (hl : out.length = n) (hm : n ≤ 1000000) [hX : ∀ L, HasRd (X :: L) A encL 4 out] : Ctr Try.prog 50 [.slice A n c, s.val] [X] (fun v M => v = .int .i64 (ofL out s) ∧ M = [X]) := by
  refine spec_of Try.func50 rfl Try.ntmps50 rfl fun w0 F => ?_
  -- ponder/ponderref10.Of
  repeat (first | refine g_endt ?_ | refine g_end ?_ | refine g_then ?_ | refine g_in_normal ?_ | refine g_then_ret ?_ | refine g_in_ret ?_ | refine g_then_exit ?_ | refine g_in_exit rfl ?_ | refine g_in_exit_ne (by decide) ?_ | refine g_seq ?_ | refine g_region ?_ | refine g_block ?_ | refine g_ret ?_ | refine g_return_n ?_ | refine g_exit ?_ | refine g_skip ?_)
  refine o_boxc s.val.cells rfl rfl fun q => ?_
  refine o_assign ?_
  first | refine g_endt ?_ | refine g_end ?_
  repeat (first | refine g_endt ?_ | refine g_end ?_ | refine g_then ?_ | refine g_in_normal ?_ | refine g_then_ret ?_ | refine g_in_ret ?_ | refine g_then_exit ?_ | refine g_in_exit rfl ?_ | refine g_in_exit_ne (by decide) ?_ | refine g_seq ?_ | refine g_region ?_ | refine g_block ?_ | refine g_ret ?_ | refine g_return_n ?_ | refine g_exit ?_ | refine g_skip ?_)
  refine o_assign ?_
  first | refine g_endt ?_ | refine g_end ?_
  refine G.bring [X] ?_
  repeat (first | refine g_endt ?_ | refine g_end ?_ | refine g_then ?_ | refine g_in_normal ?_ | refine g_then_ret ?_ | refine g_in_ret ?_ | refine g_then_exit ?_ | refine g_in_exit rfl ?_ | refine g_in_exit_ne (by decide) ?_ | refine g_seq ?_ | refine g_region ?_ | refine g_block ?_ | refine g_ret ?_ | refine g_return_n ?_ | refine g_exit ?_ | refine g_skip ?_)
  refine g_loop (σ := {i : Nat // i ≤ n ∧ ∀ (j : Nat) (p : LvD), j < i → out[j]? = some p → p.s.beq s = false}) (S := fun i => [(0, .slice A n c), (3, .pointer (some ⟨q, 0, none⟩)), (5, .int .i64 (i.1 : Int))]) (H := fun _ => [X, cellsB q s.val.cells 31]) (μ := fun i => n - i.1)
    (s0 := ⟨0, Nat.zero_le _, fun j y h => absurd h (Nat.not_lt_zero j)⟩) (Sat.mem ⟨rfl, rfl, rfl, trivial⟩) ?_
  rintro ⟨i, hi, hlow⟩ ρ'
  dsimp only at hi hlow ⊢
  repeat (first | refine g_endt ?_ | refine g_end ?_ | refine g_then ?_ | refine g_in_normal ?_ | refine g_then_ret ?_ | refine g_in_ret ?_ | refine g_then_exit ?_ | refine g_in_exit rfl ?_ | refine g_in_exit_ne (by decide) ?_ | refine g_seq ?_ | refine g_region ?_ | refine g_block ?_ | refine g_ret ?_ | refine g_return_n ?_ | refine g_exit ?_ | refine g_skip ?_)
  refine o_move ?_
  refine o_move ?_
  refine o_len rfl rfl ?_
  refine o_lss rfl rfl ?_
  first | refine g_endt ?_ | refine g_end ?_
  by_cases h : i < n
  · first | refine g_seq (g_cond_t rfl (by first | rfl | (simp; done) | (simp; omega) | (simp; assumption)) ?_) | refine g_cond_t rfl (by first | rfl | (simp; done) | (simp; omega) | (simp; assumption)) ?_
    have hi' : i < out.length := by omega
    have hpos : 0 < out.length := by omega
    obtain ⟨p, hp⟩ : ∃ p, out[i]? = some p := ⟨_, List.getElem?_eq_getElem hi'⟩
    repeat (first | refine g_endt ?_ | refine g_end ?_ | refine g_then ?_ | refine g_in_normal ?_ | refine g_then_ret ?_ | refine g_in_ret ?_ | refine g_then_exit ?_ | refine g_in_exit rfl ?_ | refine g_in_exit_ne (by decide) ?_ | refine g_seq ?_ | refine g_region ?_ | refine g_block ?_ | refine g_ret ?_ | refine g_return_n ?_ | refine g_exit ?_ | refine g_skip ?_)
    refine g_draw [] [0,1,2,3,4,5,6] [X, cellsB q s.val.cells 31] mixed rfl ?_
    refine ob_q rfl rfl ⟨_, fun X Q h => o_move (g_end (h _ _ ⟨rfl, rfl⟩)), ?_⟩
    refine ob_q rfl rfl ⟨_, fun X Q h => o_move (g_end (h _ _ ⟨rfl, rfl⟩)), ?_⟩
    refine ob_q rfl rfl ⟨_, fun X Q h => o_indexR (ys := out) (i := i) rfl rfl rfl hi' hl rfl (g_end (h _ _ ⟨rfl, rfl⟩)), ?_⟩
    refine ob_q rfl rfl ⟨_, fun X Q h => o_fieldR (ys := out) rfl hpos (g_end (h _ _ ⟨rfl, rfl⟩)), ?_⟩
    refine ob_q rfl rfl ⟨_, fun X Q h => o_loadEN (off := 0) (ys := out) (v := p.s.val) rfl hp rfl rfl (g_end (h _ _ ⟨rfl, rfl⟩)), ?_⟩
    refine ob_q rfl rfl ⟨_, fun X Q h => o_loadN (v := s.val) rfl rfl rfl (g_end (h _ _ ⟨rfl, rfl⟩)), ?_⟩
    refine ob_q rfl rfl ⟨_, fun X Q h => o_eqty rfl rfl (eq_sym p.s s) (g_end (h _ _ ⟨rfl, rfl⟩)), ?_⟩
    refine ob_nil ?_
    cases hb : p.s.beq s with
    | true =>
      first | refine g_seq (g_cond_t rfl (by first | rfl | (simp; done) | (simp; omega) | (simp; assumption)) ?_) | refine g_cond_t rfl (by first | rfl | (simp; done) | (simp; omega) | (simp; assumption)) ?_
      repeat (first | refine g_endt ?_ | refine g_end ?_ | refine g_then ?_ | refine g_in_normal ?_ | refine g_then_ret ?_ | refine g_in_ret ?_ | refine g_then_exit ?_ | refine g_in_exit rfl ?_ | refine g_in_exit_ne (by decide) ?_ | refine g_seq ?_ | refine g_region ?_ | refine g_block ?_ | refine g_ret ?_ | refine g_return_n ?_ | refine g_exit ?_ | refine g_skip ?_)
      refine o_move ?_
      refine o_move ?_
      refine o_indexR (ys := out) (i := i) rfl rfl rfl hi' hl rfl ?_
      refine o_fieldR (ys := out) rfl hpos ?_
      refine o_loadE1 (off := 3) (ys := out) (v := .int .i64 p.n) rfl hp rfl ?_
      refine o_assign ?_
      first | refine g_endt ?_ | refine g_end ?_
      repeat (first | refine g_endt ?_ | refine g_end ?_ | refine g_then ?_ | refine g_in_normal ?_ | refine g_then_ret ?_ | refine g_in_ret ?_ | refine g_then_exit ?_ | refine g_in_exit rfl ?_ | refine g_in_exit_ne (by decide) ?_ | refine g_seq ?_ | refine g_region ?_ | refine g_block ?_ | refine g_ret ?_ | refine g_return_n ?_ | refine g_exit ?_ | refine g_skip ?_)
      exact ret1 (K := [X]) rfl (resT (v := .int .i64 p.n) rfl) ⟨by rw [ofL_take hp hb hlow], rfl⟩
    | false =>
      first | refine g_seq (g_cond_f rfl (by first | rfl | (simp; done) | (simp; omega) | (simp; assumption)) ?_) | refine g_cond_f rfl (by first | rfl | (simp; done) | (simp; omega) | (simp; assumption)) ?_
      repeat (first | refine g_endt ?_ | refine g_end ?_ | refine g_then ?_ | refine g_in_normal ?_ | refine g_then_ret ?_ | refine g_in_ret ?_ | refine g_then_exit ?_ | refine g_in_exit rfl ?_ | refine g_in_exit_ne (by decide) ?_ | refine g_seq ?_ | refine g_region ?_ | refine g_block ?_ | refine g_ret ?_ | refine g_return_n ?_ | refine g_exit ?_ | refine g_skip ?_)
      refine o_move ?_
      refine o_add (c := ((i + 1 : Nat) : Int)) rfl rfl (by omega) (by omega) (by omega) ?_
      refine o_assign ?_
      first | refine g_endt ?_ | refine g_end ?_
      repeat (first | refine g_endt ?_ | refine g_end ?_ | refine g_then ?_ | refine g_in_normal ?_ | refine g_then_ret ?_ | refine g_in_ret ?_ | refine g_then_exit ?_ | refine g_in_exit rfl ?_ | refine g_in_exit_ne (by decide) ?_ | refine g_seq ?_ | refine g_region ?_ | refine g_block ?_ | refine g_ret ?_ | refine g_return_n ?_ | refine g_exit ?_ | refine g_skip ?_)
      have hn : ∀ (j : Nat) (z : LvD), j < i + 1 → out[j]? = some z → z.s.beq s = false := fun j z hj hz => by
        by_cases e : j = i
        · subst e; rw [hp] at hz; cases hz; exact hb
        · exact hlow j z (by omega) hz
      exact g_meets (⟨i + 1, h, hn⟩) (by first | exact trivial | (dsimp only; omega)) (Sat.mem (by repeat (first | exact trivial | refine And.intro rfl ?_)))
  · first | refine g_seq (g_cond_f rfl (by simp; omega) ?_) | refine g_cond_f rfl (by simp; omega) ?_
    repeat (first | refine g_endt ?_ | refine g_end ?_ | refine g_then ?_ | refine g_in_normal ?_ | refine g_then_ret ?_ | refine g_in_ret ?_ | refine g_then_exit ?_ | refine g_in_exit rfl ?_ | refine g_in_exit_ne (by decide) ?_ | refine g_seq ?_ | refine g_region ?_ | refine g_block ?_ | refine g_ret ?_ | refine g_return_n ?_ | refine g_exit ?_ | refine g_skip ?_)
    refine o_assign ?_
    first | refine g_endt ?_ | refine g_end ?_
    repeat (first | refine g_endt ?_ | refine g_end ?_ | refine g_then ?_ | refine g_in_normal ?_ | refine g_then_ret ?_ | refine g_in_ret ?_ | refine g_then_exit ?_ | refine g_in_exit rfl ?_ | refine g_in_exit_ne (by decide) ?_ | refine g_seq ?_ | refine g_region ?_ | refine g_block ?_ | refine g_ret ?_ | refine g_return_n ?_ | refine g_exit ?_ | refine g_skip ?_)
    exact ret1 (K := [X]) rfl (resT (v := .int .i64 0) rfl) ⟨by rw [ofL_none fun j q hj hq => hlow j q (by omega) hq], rfl⟩
/-- The first place of a goal. -/
def firstF (gs : List SymD) (s : SymD) : Int := match gs.findIdx? (fun g => g.beq s) with | some i => (i : Int) | none => -1
theorem firstF_at {gs : List SymD} {s g : SymD} {i : Nat} (hg : gs[i]? = some g) (hb : g.beq s = true) (h : ∀ (j : Nat) (q : SymD), j < i → gs[j]? = some q → q.beq s = false) : firstF gs s = (i : Int) := by
  unfold firstF
  have : gs.findIdx? (fun g => g.beq s) = some i := by
    rw [List.findIdx?_eq_some_iff_getElem]
    obtain ⟨hlt, he⟩ := List.getElem?_eq_some_iff.1 hg
    refine ⟨hlt, by rw [he]; exact hb, fun j hj => ?_⟩
    have hj2 : j < gs.length := by omega
    rw [h j gs[j] hj (List.getElem?_eq_getElem hj2)]
    simp
  rw [this]
theorem firstF_none {gs : List SymD} {s : SymD} (h : ∀ (j : Nat) (q : SymD), j < gs.length → gs[j]? = some q → q.beq s = false) : firstF gs s = -1 := by
  unfold firstF
  have : gs.findIdx? (fun g => g.beq s) = none := by
    rw [List.findIdx?_eq_none_iff]
    intro q hq
    obtain ⟨j, hj⟩ := List.mem_iff_getElem?.1 hq
    exact h j q (List.getElem?_eq_some_iff.1 hj).1 hj
  rw [this]
/-- A goal is its own first place just if its level says so. -/
theorem firstF_iff {gs : List SymD} {l : List ElemD} {g : SymD} {i : Nat} (hg : gs[i]? = some g) {f : SymD → Int} (hf : LevIs gs l g (f g)) : firstF gs g = (i : Int) ↔ f g = (i : Int) + 1 := by
  obtain ⟨k, g', hk, hgk, hr, hm⟩ := hf
  have hgg : g = g' := hr.goal (List.mem_of_getElem? hg)
  subst hgg
  have h1 : firstF gs g = (k : Int) := firstF_at hgk ((SymD.beq_iff g g).2 rfl) fun j q hj hq => by
    rw [← Bool.not_eq_true, SymD.beq_iff]
    rintro rfl
    exact hm j q hj hq .base
  rw [h1, hk]
  omega
theorem first10_spec (A : Option Addr) (n c : Nat) (gs : List SymD) (s : SymD) (hl : gs.length = n) (hm : n ≤ 1000000) : Ctr Try.prog 61 [.slice A n c, s.val] [psl encS 3 A gs] (fun v M => v = .int .i64 (firstF gs s) ∧ M = []) := by
  refine spec_of Try.func61 rfl Try.ntmps61 rfl fun w0 F => ?_
  -- ponder/ponderref10.first
  repeat (first | refine g_endt ?_ | refine g_end ?_ | refine g_then ?_ | refine g_in_normal ?_ | refine g_then_ret ?_ | refine g_in_ret ?_ | refine g_then_exit ?_ | refine g_in_exit rfl ?_ | refine g_in_exit_ne (by decide) ?_ | refine g_seq ?_ | refine g_region ?_ | refine g_block ?_ | refine g_ret ?_ | refine g_return_n ?_ | refine g_exit ?_ | refine g_skip ?_)
  refine o_boxc s.val.cells rfl rfl fun q => ?_
  refine o_assign ?_
  first | refine g_endt ?_ | refine g_end ?_
  repeat (first | refine g_endt ?_ | refine g_end ?_ | refine g_then ?_ | refine g_in_normal ?_ | refine g_then_ret ?_ | refine g_in_ret ?_ | refine g_then_exit ?_ | refine g_in_exit rfl ?_ | refine g_in_exit_ne (by decide) ?_ | refine g_seq ?_ | refine g_region ?_ | refine g_block ?_ | refine g_ret ?_ | refine g_return_n ?_ | refine g_exit ?_ | refine g_skip ?_)
  refine o_assign ?_
  first | refine g_endt ?_ | refine g_end ?_
  repeat (first | refine g_endt ?_ | refine g_end ?_ | refine g_then ?_ | refine g_in_normal ?_ | refine g_then_ret ?_ | refine g_in_ret ?_ | refine g_then_exit ?_ | refine g_in_exit rfl ?_ | refine g_in_exit_ne (by decide) ?_ | refine g_seq ?_ | refine g_region ?_ | refine g_block ?_ | refine g_ret ?_ | refine g_return_n ?_ | refine g_exit ?_ | refine g_skip ?_)
  refine g_loop (σ := {i : Nat // i ≤ n ∧ ∀ (j : Nat) (p : SymD), j < i → gs[j]? = some p → p.beq s = false}) (S := fun i => [(0, .slice A n c), (3, .pointer (some ⟨q, 0, none⟩)), (5, .int .i64 (i.1 : Int))]) (H := fun _ => [psl encS 3 A gs, cellsB q s.val.cells 31]) (μ := fun i => n - i.1)
    (s0 := ⟨0, Nat.zero_le _, fun j y h => absurd h (Nat.not_lt_zero j)⟩) (Sat.mem ⟨rfl, rfl, rfl, trivial⟩) ?_
  rintro ⟨i, hi, hlow⟩ ρ'
  dsimp only at hi hlow ⊢
  repeat (first | refine g_endt ?_ | refine g_end ?_ | refine g_then ?_ | refine g_in_normal ?_ | refine g_then_ret ?_ | refine g_in_ret ?_ | refine g_then_exit ?_ | refine g_in_exit rfl ?_ | refine g_in_exit_ne (by decide) ?_ | refine g_seq ?_ | refine g_region ?_ | refine g_block ?_ | refine g_ret ?_ | refine g_return_n ?_ | refine g_exit ?_ | refine g_skip ?_)
  refine o_move ?_
  refine o_move ?_
  refine o_len rfl rfl ?_
  refine o_lss rfl rfl ?_
  first | refine g_endt ?_ | refine g_end ?_
  by_cases h : i < n
  · first | refine g_seq (g_cond_t rfl (by first | rfl | (simp; done) | (simp; omega) | (simp; assumption)) ?_) | refine g_cond_t rfl (by first | rfl | (simp; done) | (simp; omega) | (simp; assumption)) ?_
    have hi' : i < gs.length := by omega
    obtain ⟨p, hp⟩ : ∃ p, gs[i]? = some p := ⟨_, List.getElem?_eq_getElem hi'⟩
    repeat (first | refine g_endt ?_ | refine g_end ?_ | refine g_then ?_ | refine g_in_normal ?_ | refine g_then_ret ?_ | refine g_in_ret ?_ | refine g_then_exit ?_ | refine g_in_exit rfl ?_ | refine g_in_exit_ne (by decide) ?_ | refine g_seq ?_ | refine g_region ?_ | refine g_block ?_ | refine g_ret ?_ | refine g_return_n ?_ | refine g_exit ?_ | refine g_skip ?_)
    refine g_draw [] [0,1,2,3,4,5] [psl encS 3 A gs, cellsB q s.val.cells 31] mixed rfl ?_
    refine ob_q rfl rfl ⟨_, fun X Q h => o_move (g_end (h _ _ ⟨rfl, rfl⟩)), ?_⟩
    refine ob_q rfl rfl ⟨_, fun X Q h => o_move (g_end (h _ _ ⟨rfl, rfl⟩)), ?_⟩
    refine ob_q rfl rfl ⟨_, fun X Q h => o_indexR (ys := gs) (i := i) rfl rfl rfl hi' hl rfl (g_end (h _ _ ⟨rfl, rfl⟩)), ?_⟩
    refine ob_q rfl rfl ⟨_, fun X Q h => o_loadE (ys := gs) rfl rfl hp (g_end (h _ _ ⟨rfl, rfl⟩)), ?_⟩
    refine ob_q rfl rfl ⟨_, fun X Q h => o_loadN (v := s.val) rfl rfl rfl (g_end (h _ _ ⟨rfl, rfl⟩)), ?_⟩
    refine ob_q rfl rfl ⟨_, fun X Q h => o_eqty rfl rfl (eq_sym p s) (g_end (h _ _ ⟨rfl, rfl⟩)), ?_⟩
    refine ob_nil ?_
    cases hb : p.beq s with
    | true =>
      first | refine g_seq (g_cond_t rfl (by first | rfl | (simp; done) | (simp; omega) | (simp; assumption)) ?_) | refine g_cond_t rfl (by first | rfl | (simp; done) | (simp; omega) | (simp; assumption)) ?_
      repeat (first | refine g_endt ?_ | refine g_end ?_ | refine g_then ?_ | refine g_in_normal ?_ | refine g_then_ret ?_ | refine g_in_ret ?_ | refine g_then_exit ?_ | refine g_in_exit rfl ?_ | refine g_in_exit_ne (by decide) ?_ | refine g_seq ?_ | refine g_region ?_ | refine g_block ?_ | refine g_ret ?_ | refine g_return_n ?_ | refine g_exit ?_ | refine g_skip ?_)
      refine o_move ?_
      refine o_assign ?_
      first | refine g_endt ?_ | refine g_end ?_
      repeat (first | refine g_endt ?_ | refine g_end ?_ | refine g_then ?_ | refine g_in_normal ?_ | refine g_then_ret ?_ | refine g_in_ret ?_ | refine g_then_exit ?_ | refine g_in_exit rfl ?_ | refine g_in_exit_ne (by decide) ?_ | refine g_seq ?_ | refine g_region ?_ | refine g_block ?_ | refine g_ret ?_ | refine g_return_n ?_ | refine g_exit ?_ | refine g_skip ?_)
      exact ret1 (K := []) rfl (resT (v := .int .i64 (i : Int)) rfl) ⟨by rw [firstF_at hp hb hlow], rfl⟩
    | false =>
      first | refine g_seq (g_cond_f rfl (by first | rfl | (simp; done) | (simp; omega) | (simp; assumption)) ?_) | refine g_cond_f rfl (by first | rfl | (simp; done) | (simp; omega) | (simp; assumption)) ?_
      repeat (first | refine g_endt ?_ | refine g_end ?_ | refine g_then ?_ | refine g_in_normal ?_ | refine g_then_ret ?_ | refine g_in_ret ?_ | refine g_then_exit ?_ | refine g_in_exit rfl ?_ | refine g_in_exit_ne (by decide) ?_ | refine g_seq ?_ | refine g_region ?_ | refine g_block ?_ | refine g_ret ?_ | refine g_return_n ?_ | refine g_exit ?_ | refine g_skip ?_)
      refine o_move ?_
      refine o_add (c := ((i + 1 : Nat) : Int)) rfl rfl (by omega) (by omega) (by omega) ?_
      refine o_assign ?_
      first | refine g_endt ?_ | refine g_end ?_
      repeat (first | refine g_endt ?_ | refine g_end ?_ | refine g_then ?_ | refine g_in_normal ?_ | refine g_then_ret ?_ | refine g_in_ret ?_ | refine g_then_exit ?_ | refine g_in_exit rfl ?_ | refine g_in_exit_ne (by decide) ?_ | refine g_seq ?_ | refine g_region ?_ | refine g_block ?_ | refine g_ret ?_ | refine g_return_n ?_ | refine g_exit ?_ | refine g_skip ?_)
      have hn : ∀ (j : Nat) (z : SymD), j < i + 1 → gs[j]? = some z → z.beq s = false := fun j z hj hz => by
        by_cases e : j = i
        · subst e; rw [hp] at hz; cases hz; exact hb
        · exact hlow j z (by omega) hz
      exact g_meets (⟨i + 1, h, hn⟩) (by first | exact trivial | (dsimp only; omega)) (Sat.mem (by repeat (first | exact trivial | refine And.intro rfl ?_)))
  · first | refine g_seq (g_cond_f rfl (by simp; omega) ?_) | refine g_cond_f rfl (by simp; omega) ?_
    repeat (first | refine g_endt ?_ | refine g_end ?_ | refine g_then ?_ | refine g_in_normal ?_ | refine g_then_ret ?_ | refine g_in_ret ?_ | refine g_then_exit ?_ | refine g_in_exit rfl ?_ | refine g_in_exit_ne (by decide) ?_ | refine g_seq ?_ | refine g_region ?_ | refine g_block ?_ | refine g_ret ?_ | refine g_return_n ?_ | refine g_exit ?_ | refine g_skip ?_)
    refine o_assign ?_
    first | refine g_endt ?_ | refine g_end ?_
    repeat (first | refine g_endt ?_ | refine g_end ?_ | refine g_then ?_ | refine g_in_normal ?_ | refine g_then_ret ?_ | refine g_in_ret ?_ | refine g_then_exit ?_ | refine g_in_exit rfl ?_ | refine g_in_exit_ne (by decide) ?_ | refine g_seq ?_ | refine g_region ?_ | refine g_block ?_ | refine g_ret ?_ | refine g_return_n ?_ | refine g_exit ?_ | refine g_skip ?_)
    exact ret1 (K := []) rfl (resT (v := .int .i64 (-1)) rfl) ⟨by rw [firstF_none fun j q hj hq => hlow j q (by omega) hq], rfl⟩
end Go.Proofs.Ytonjhakjnopbjaa
/- The reference's levels: the walk. -/
namespace Go.Proofs.Ytonjhakjnopbjaa
open Go Go.Sl
attribute [local irreducible] Code.wpIn roundPost bodyPostM runL Ret Meets Begin

theorem nd_len {α : Type} : ∀ {l m : List α}, l.Pairwise (fun a b => a ≠ b) → (∀ x ∈ l, x ∈ m) → l.length ≤ m.length
  | [], _, _, _ => Nat.zero_le _
  | y :: l, m, hs, h => by
    obtain ⟨s, t, rfl⟩ := List.append_of_mem (h y List.mem_cons_self)
    rw [List.pairwise_cons] at hs
    have ih := nd_len (m := s ++ t) hs.2 fun x hx => by
      have hne := hs.1 x hx
      have := h x (List.mem_cons_of_mem _ hx)
      simp only [List.mem_append, List.mem_cons] at this ⊢
      rcases this with h | h | h
      · exact .inl h
      · exact absurd h.symm hne
      · exact .inr h
    simp only [List.length_append, List.length_cons] at ih ⊢
    omega
theorem tabL_len {gs : List SymD} {xs : List ElemD} {out : List LvD} {f : SymD → Int} (ht : TabL out f) (h : ∀ s, f s ≠ 0 → LevIs gs xs s (f s)) : out.length ≤ gs.length + xs.length := by
  have h1 := nd_len (l := out.map LvD.s) (m := gs ++ xs.map ElemD.value) (by rw [List.pairwise_map]; exact ht.nd) fun s hs => by
    obtain ⟨p, hp, rfl⟩ := List.mem_map.1 hs
    obtain ⟨h1, h2⟩ := ht.own p hp
    obtain ⟨i, g, _, hg, hr, _⟩ := h p.s (by rw [h2]; exact h1)
    cases hr with
    | base => exact List.mem_append_left _ (List.mem_of_getElem? hg)
    | @step a b _ he _ =>
      obtain ⟨e, hel, _, hv, _⟩ := he
      exact List.mem_append_right _ (List.mem_map.2 ⟨e, hel, hv⟩)
  simpa using h1
structure A1I (gs : List SymD) (xs : List ElemD) (n i : Nat) (out : List LvD) (f : SymD → Int) : Prop where
  le : i ≤ n
  ini : Init gs xs i f
  tab : TabL out f
structure A2I (gs : List SymD) (xs : List ElemD) (n i : Nat) (out : List LvD) (f : SymD → Int) : Prop where
  le : i ≤ n
  st : Stage gs xs i f
  tab : TabL out f
/-- On the way: the elements from j on are still to be looked at. -/
structure RunJ (gs : List SymD) (xs : List ElemD) (i k : Nat) (cur : Option SymD) (j : Nat) (todo : List SymD) (out : List LvD) (f : SymD → Int) : Prop where
  work : Work gs xs i todo cur f
  tab : TabL out f
  pre : ∀ (j' : Nat) (e : ElemD), j' < j → xs[j']? = some e → cur = some e.id → e.value.kind = 1 → f e.value ≠ 0
  mu : todo.length + (gs.length + xs.length - out.length) ≤ k
theorem RunJ.len {gs : List SymD} {xs : List ElemD} {i k j : Nat} {cur : Option SymD} {todo : List SymD} {out : List LvD} {f : SymD → Int} (h : RunJ gs xs i k cur j todo out f) : out.length ≤ gs.length + xs.length := tabL_len h.tab h.work.snd
theorem A1I.len {gs : List SymD} {xs : List ElemD} {n i : Nat} {out : List LvD} {f : SymD → Int} (h : A1I gs xs n i out f) : out.length ≤ gs.length + xs.length := tabL_len h.tab h.ini.snd
theorem A2I.len {gs : List SymD} {xs : List ElemD} {n i : Nat} {out : List LvD} {f : SymD → Int} (h : A2I gs xs n i out f) : out.length ≤ gs.length + xs.length := tabL_len h.tab h.st.snd
theorem RunJ.next {gs : List SymD} {xs : List ElemD} {i k j : Nat} {cur : Option SymD} {todo : List SymD} {out : List LvD} {f : SymD → Int} (h : RunJ gs xs i k cur j todo out f) {e : ElemD} (he : xs[j]? = some e) (hv : cur = some e.id → e.value.kind = 1 → f e.value ≠ 0) : RunJ gs xs i k cur (j + 1) todo out f :=
  ⟨h.work, h.tab, fun j' e' hj he' hc hk => by
    by_cases ej : j' = j
    · subst ej; rw [he] at he'; cases he'; exact hv hc hk
    · exact h.pre j' e' (by omega) he' hc hk, h.mu⟩
theorem RunJ.add {gs : List SymD} {xs : List ElemD} {i k j : Nat} {s g : SymD} {todo : List SymD} {out : List LvD} {f : SymD → Int} (h : RunJ gs xs i k (some s) j todo out f) (hg : gs[i]? = some g) {e : ElemD} (he : xs[j]? = some e) (hid : e.id = s) (hk1 : e.value.kind = 1) (hf : f e.value = 0) :
    RunJ gs xs i k (some s) (j + 1) (todo ++ [e.value]) (out ++ [⟨e.value, (i : Int) + 1⟩]) (updF f e.value ((i : Int) + 1)) := by
  have hw := h.work.add hg ⟨e, List.mem_of_getElem? he, hid, rfl, hk1⟩ hf
  have ht := h.tab.snoc hf (n := (i : Int) + 1) (by omega)
  have hl := tabL_len ht hw.snd
  refine ⟨hw, ht, fun j' e' hj he' hc hk => ?_, ?_⟩
  · by_cases ev : e'.value = e.value
    · rw [ev, updF_same]; omega
    · rw [updF_ne f _ ev]
      by_cases ej : j' = j
      · subst ej; rw [he] at he'; cases he'; exact absurd rfl ev
      · exact h.pre j' e' (by omega) he' hc hk
  · have := h.mu
    simp only [List.length_append, List.length_singleton] at hl ⊢
    omega
theorem RunJ.begin {gs : List SymD} {xs : List ElemD} {n i : Nat} {out : List LvD} {f : SymD → Int} (h : A2I gs xs n i out f) {g : SymD} (hg : gs[i]? = some g) (hf : f g = (i : Int) + 1) : RunJ gs xs i (1 + (gs.length + xs.length)) none 0 [g] out f :=
  ⟨h.st.begin hg hf, h.tab, fun j' e hj => absurd hj (Nat.not_lt_zero j'), by simp⟩
theorem RunJ.pop {gs : List SymD} {xs : List ElemD} {i k : Nat} {s : SymD} {todo : List SymD} {out : List LvD} {f : SymD → Int} (h : RunJ gs xs i k none 0 (s :: todo) out f) : 0 < k ∧ RunJ gs xs i (k - 1) (some s) 0 todo out f := by
  have := h.mu
  simp only [List.length_cons] at this
  exact ⟨by omega, h.work.pop, h.tab, fun j' e hj => absurd hj (Nat.not_lt_zero j'), by omega⟩
theorem RunJ.shut {gs : List SymD} {xs : List ElemD} {i k j : Nat} {s : SymD} {todo : List SymD} {out : List LvD} {f : SymD → Int} (h : RunJ gs xs i k (some s) j todo out f) (hj : xs.length ≤ j) : RunJ gs xs i k none 0 todo out f :=
  ⟨h.work.shut fun b ⟨e, he, hid, hv, hk⟩ => by
    obtain ⟨j', hj'⟩ := List.mem_iff_getElem?.1 he
    have := (List.getElem?_eq_some_iff.1 hj').1
    subst hv
    exact h.pre j' e (by omega) hj' (by rw [hid]) hk, h.tab, fun j' e hj => absurd hj (Nat.not_lt_zero j'), h.mu⟩
theorem RunJ.done {gs : List SymD} {xs : List ElemD} {n i k : Nat} {out : List LvD} {f : SymD → Int} (h : RunJ gs xs i k none 0 [] out f) (hi : i < n) : A2I gs xs n (i + 1) out f := ⟨hi, h.work.done, h.tab⟩
theorem slice_snoc {α : Type} (S : Option Addr) (e : Nat) (out : List α) (p : α) : Value.slice S (out.length + 1) e = Value.slice S (out ++ [p]).length e := by rw [List.length_append]; rfl
abbrev owL (S : Option Addr) (e : Nat) (out : List LvD) : SProp := osl 91 encL 4 S e out
abbrev qS (S : Option Addr) (e : Nat) (todo : List SymD) : SProp := qsl 31 encS 3 S e todo
set_option maxHeartbeats 4000000 in
theorem Levels10_spec (A : Option Addr) (n c : Nat) (gs : List SymD) (hg : gs.length = n) (hn : n ≤ 10000) (B : Option Addr) (m d : Nat) (xs : List ElemD) (hx : xs.length = m) (hm : m ≤ 10000) :
    Ctr Try.prog 49 [.slice A n c, .slice B m d] [psl encS 3 A gs, psl encE 12 B xs]
      (fun v M => ∃ S e out, v = .slice S out.length e ∧ TabL out (rlev gs xs) ∧ out.length ≤ n + m ∧ M = [psl encL 4 S out]) := by
  refine spec_of Try.func49 rfl Try.ntmps49 rfl fun w0 F => ?_
  -- ponder/ponderref10.Levels
  repeat (first | refine g_endt ?_ | refine g_end ?_ | refine g_then ?_ | refine g_in_normal ?_ | refine g_then_ret ?_ | refine g_in_ret ?_ | refine g_then_exit ?_ | refine g_in_exit rfl ?_ | refine g_in_exit_ne (by decide) ?_ | refine g_seq ?_ | refine g_region ?_ | refine g_block ?_ | refine g_ret ?_ | refine g_return_n ?_ | refine g_exit ?_ | refine g_skip ?_)
  refine o_assign ?_
  first | refine g_endt ?_ | refine g_end ?_
  repeat (first | refine g_endt ?_ | refine g_end ?_ | refine g_then ?_ | refine g_in_normal ?_ | refine g_then_ret ?_ | refine g_in_ret ?_ | refine g_then_exit ?_ | refine g_in_exit rfl ?_ | refine g_in_exit_ne (by decide) ?_ | refine g_seq ?_ | refine g_region ?_ | refine g_block ?_ | refine g_ret ?_ | refine g_return_n ?_ | refine g_exit ?_ | refine g_skip ?_)
  refine o_assign ?_
  first | refine g_endt ?_ | refine g_end ?_
  repeat (first | refine g_endt ?_ | refine g_end ?_ | refine g_then ?_ | refine g_in_normal ?_ | refine g_then_ret ?_ | refine g_in_ret ?_ | refine g_then_exit ?_ | refine g_in_exit rfl ?_ | refine g_in_exit_ne (by decide) ?_ | refine g_seq ?_ | refine g_region ?_ | refine g_block ?_ | refine g_ret ?_ | refine g_return_n ?_ | refine g_exit ?_ | refine g_skip ?_)
  refine o_assign ?_
  first | refine g_endt ?_ | refine g_end ?_
  refine G.nil_slice 91 encL 4 ?_
  repeat (first | refine g_endt ?_ | refine g_end ?_ | refine g_then ?_ | refine g_in_normal ?_ | refine g_then_ret ?_ | refine g_in_ret ?_ | refine g_then_exit ?_ | refine g_in_exit rfl ?_ | refine g_in_exit_ne (by decide) ?_ | refine g_seq ?_ | refine g_region ?_ | refine g_block ?_ | refine g_ret ?_ | refine g_return_n ?_ | refine g_exit ?_ | refine g_skip ?_)
  refine g_loop (σ := {t : Nat × (Option Addr × Nat) × List LvD × (SymD → Int) // A1I gs xs n t.1 t.2.2.1 t.2.2.2}) (S := fun t => [(0, .slice A n c), (1, .slice B m d), (5, .slice t.1.2.1.1 t.1.2.2.1.length t.1.2.1.2), (6, .int .i64 (t.1.1 : Int))])
    (H := fun t => [owL t.1.2.1.1 t.1.2.1.2 t.1.2.2.1, psl encS 3 A gs, psl encE 12 B xs]) (μ := fun t => n - t.1.1) (s0 := ⟨(0, (none, 0), [], fun _ => 0), Nat.zero_le _, Init.zero, TabL.nil⟩) (Sat.mem ⟨rfl, rfl, rfl, rfl, trivial⟩) ?_
  rintro ⟨⟨i, ⟨S, e⟩, out, f⟩, hI⟩ ρ'
  dsimp only at hI ⊢
  have hol := hI.len
  repeat (first | refine g_endt ?_ | refine g_end ?_ | refine g_then ?_ | refine g_in_normal ?_ | refine g_then_ret ?_ | refine g_in_ret ?_ | refine g_then_exit ?_ | refine g_in_exit rfl ?_ | refine g_in_exit_ne (by decide) ?_ | refine g_seq ?_ | refine g_region ?_ | refine g_block ?_ | refine g_ret ?_ | refine g_return_n ?_ | refine g_exit ?_ | refine g_skip ?_)
  refine o_move ?_
  refine o_move ?_
  refine o_len rfl rfl ?_
  refine o_lss rfl rfl ?_
  first | refine g_endt ?_ | refine g_end ?_
  by_cases h : i < n
  · first | refine g_seq (g_cond_t rfl (by first | rfl | (simp; done) | (simp; omega) | (simp; assumption)) ?_) | refine g_cond_t rfl (by first | rfl | (simp; done) | (simp; omega) | (simp; assumption)) ?_
    have hi' : i < gs.length := by omega
    obtain ⟨x, hxi⟩ : ∃ x, gs[i]? = some x := ⟨_, List.getElem?_eq_getElem hi'⟩
    repeat (first | refine g_endt ?_ | refine g_end ?_ | refine g_then ?_ | refine g_in_normal ?_ | refine g_then_ret ?_ | refine g_in_ret ?_ | refine g_then_exit ?_ | refine g_in_exit rfl ?_ | refine g_in_exit_ne (by decide) ?_ | refine g_seq ?_ | refine g_region ?_ | refine g_block ?_ | refine g_ret ?_ | refine g_return_n ?_ | refine g_exit ?_ | refine g_skip ?_)
    refine o_move ?_
    refine o_move ?_
    refine o_move ?_
    refine o_indexR (ys := gs) (i := i) rfl rfl rfl hi' hg rfl ?_
    refine o_loadE (ys := gs) rfl rfl hxi ?_
    refine o_call (Of10_spec (owL S e out) S out.length e out x rfl (by omega)) rfl rfl ?_
    rintro _ _ ⟨rfl, rfl⟩
    refine o_eql rfl rfl ?_
    first | refine g_endt ?_ | refine g_end ?_
    have hofx := hI.tab.all x
    by_cases hf : f x = 0
    · first | refine g_seq (g_cond_t rfl (by rw [hofx, hf]; rfl) ?_) | refine g_cond_t rfl (by rw [hofx, hf]; rfl) ?_
      repeat (first | refine g_endt ?_ | refine g_end ?_ | refine g_then ?_ | refine g_in_normal ?_ | refine g_then_ret ?_ | refine g_in_ret ?_ | refine g_then_exit ?_ | refine g_in_exit rfl ?_ | refine g_in_exit_ne (by decide) ?_ | refine g_seq ?_ | refine g_region ?_ | refine g_block ?_ | refine g_ret ?_ | refine g_return_n ?_ | refine g_exit ?_ | refine g_skip ?_)
      refine o_move ?_
      refine o_move ?_
      refine o_move ?_
      refine o_indexR (ys := gs) (i := i) rfl rfl rfl hi' hg rfl ?_
      refine o_loadE (ys := gs) rfl rfl hxi ?_
      refine o_move ?_
      refine o_add (c := (i : Int) + 1) rfl rfl rfl (by omega) (by omega) ?_
      refine o_build ((LvD.val ⟨x, (i : Int) + 1⟩)) (fun w => by kernel_rfl) ?_
      refine o_litP (e := 91) encL [⟨x, (i : Int) + 1⟩] (LvD.val ⟨x, (i : Int) + 1⟩).cells (fun w => by kernel_rfl) (by simp [encL]) (by simp [maxLen]) fun _ => ?_
      refine o_append (xs := out) (ys := [⟨x, (i : Int) + 1⟩]) rfl rfl rfl rfl rfl (fun _ => .inr trivial) (by simp [maxLen]; omega) (by simp; omega) fun S2 e2 => ?_
      refine o_assign ?_
      first | refine g_endt ?_ | refine g_end ?_
      repeat (first | refine g_endt ?_ | refine g_end ?_ | refine g_then ?_ | refine g_in_normal ?_ | refine g_then_ret ?_ | refine g_in_ret ?_ | refine g_then_exit ?_ | refine g_in_exit rfl ?_ | refine g_in_exit_ne (by decide) ?_ | refine g_seq ?_ | refine g_region ?_ | refine g_block ?_ | refine g_ret ?_ | refine g_return_n ?_ | refine g_exit ?_ | refine g_skip ?_)
      refine o_move ?_
      refine o_add (c := ((i + 1 : Nat) : Int)) rfl rfl (by omega) (by omega) (by omega) ?_
      refine o_assign ?_
      first | refine g_endt ?_ | refine g_end ?_
      repeat (first | refine g_endt ?_ | refine g_end ?_ | refine g_then ?_ | refine g_in_normal ?_ | refine g_then_ret ?_ | refine g_in_ret ?_ | refine g_then_exit ?_ | refine g_in_exit rfl ?_ | refine g_in_exit_ne (by decide) ?_ | refine g_seq ?_ | refine g_region ?_ | refine g_block ?_ | refine g_ret ?_ | refine g_return_n ?_ | refine g_exit ?_ | refine g_skip ?_)
      exact g_meets ⟨(i + 1, (S2, e2), out ++ [⟨x, (i : Int) + 1⟩], updF f x ((i : Int) + 1)), h, hI.ini.new hxi hf, hI.tab.snoc hf (by omega)⟩ (by show n - (i + 1) < n - i; omega) (Sat.mem ⟨rfl, rfl, slice_snoc _ _ _ _, rfl, trivial⟩)
    · first | refine g_seq (g_cond_f rfl (by rw [hofx]; simpa using hf) ?_) | refine g_cond_f rfl (by rw [hofx]; simpa using hf) ?_
      repeat (first | refine g_endt ?_ | refine g_end ?_ | refine g_then ?_ | refine g_in_normal ?_ | refine g_then_ret ?_ | refine g_in_ret ?_ | refine g_then_exit ?_ | refine g_in_exit rfl ?_ | refine g_in_exit_ne (by decide) ?_ | refine g_seq ?_ | refine g_region ?_ | refine g_block ?_ | refine g_ret ?_ | refine g_return_n ?_ | refine g_exit ?_ | refine g_skip ?_)
      refine o_move ?_
      refine o_add (c := ((i + 1 : Nat) : Int)) rfl rfl (by omega) (by omega) (by omega) ?_
      refine o_assign ?_
      first | refine g_endt ?_ | refine g_end ?_
      repeat (first | refine g_endt ?_ | refine g_end ?_ | refine g_then ?_ | refine g_in_normal ?_ | refine g_then_ret ?_ | refine g_in_ret ?_ | refine g_then_exit ?_ | refine g_in_exit rfl ?_ | refine g_in_exit_ne (by decide) ?_ | refine g_seq ?_ | refine g_region ?_ | refine g_block ?_ | refine g_ret ?_ | refine g_return_n ?_ | refine g_exit ?_ | refine g_skip ?_)
      exact g_meets (⟨(i + 1, (S, e), out, f), h, hI.ini.old hxi hf, hI.tab⟩) (by first | exact trivial | (dsimp only; omega)) (Sat.mem (by repeat (first | exact trivial | refine And.intro rfl ?_)))
  first | refine g_seq (g_cond_f rfl (by simp; omega) ?_) | refine g_cond_f rfl (by simp; omega) ?_
  have hin : i = gs.length := by have := hI.le; omega
  subst hin
  have hst := hI.ini.stage
  have htab := hI.tab
  repeat (first | refine g_endt ?_ | refine g_end ?_ | refine g_then ?_ | refine g_in_normal ?_ | refine g_then_ret ?_ | refine g_in_ret ?_ | refine g_then_exit ?_ | refine g_in_exit rfl ?_ | refine g_in_exit_ne (by decide) ?_ | refine g_seq ?_ | refine g_region ?_ | refine g_block ?_ | refine g_ret ?_ | refine g_return_n ?_ | refine g_exit ?_ | refine g_skip ?_)
  refine o_assign ?_
  first | refine g_endt ?_ | refine g_end ?_
  repeat (first | refine g_endt ?_ | refine g_end ?_ | refine g_then ?_ | refine g_in_normal ?_ | refine g_then_ret ?_ | refine g_in_ret ?_ | refine g_then_exit ?_ | refine g_in_exit rfl ?_ | refine g_in_exit_ne (by decide) ?_ | refine g_seq ?_ | refine g_region ?_ | refine g_block ?_ | refine g_ret ?_ | refine g_return_n ?_ | refine g_exit ?_ | refine g_skip ?_)
  refine g_loop (σ := {t : Nat × (Option Addr × Nat) × List LvD × (SymD → Int) // A2I gs xs n t.1 t.2.2.1 t.2.2.2}) (S := fun t => [(0, .slice A n c), (1, .slice B m d), (5, .slice t.1.2.1.1 t.1.2.2.1.length t.1.2.1.2), (7, .int .i64 (t.1.1 : Int))])
    (H := fun t => [owL t.1.2.1.1 t.1.2.1.2 t.1.2.2.1, psl encS 3 A gs, psl encE 12 B xs]) (μ := fun t => n - t.1.1) (s0 := ⟨(0, (S, e), out, f), Nat.zero_le _, hst, htab⟩) (Sat.mem ⟨rfl, rfl, rfl, rfl, trivial⟩) ?_
  clear hst htab hI h hol f out S e
  rintro ⟨⟨i, ⟨S, e⟩, out, f⟩, hI⟩ ρ2
  dsimp only at hI ⊢
  have hol := hI.len
  repeat (first | refine g_endt ?_ | refine g_end ?_ | refine g_then ?_ | refine g_in_normal ?_ | refine g_then_ret ?_ | refine g_in_ret ?_ | refine g_then_exit ?_ | refine g_in_exit rfl ?_ | refine g_in_exit_ne (by decide) ?_ | refine g_seq ?_ | refine g_region ?_ | refine g_block ?_ | refine g_ret ?_ | refine g_return_n ?_ | refine g_exit ?_ | refine g_skip ?_)
  refine o_move ?_
  refine o_move ?_
  refine o_len rfl rfl ?_
  refine o_lss rfl rfl ?_
  first | refine g_endt ?_ | refine g_end ?_
  by_cases h : i < n
  · first | refine g_seq (g_cond_t rfl (by first | rfl | (simp; done) | (simp; omega) | (simp; assumption)) ?_) | refine g_cond_t rfl (by first | rfl | (simp; done) | (simp; omega) | (simp; assumption)) ?_
    have hi' : i < gs.length := by omega
    obtain ⟨x, hxi⟩ : ∃ x, gs[i]? = some x := ⟨_, List.getElem?_eq_getElem hi'⟩
    have hfi := firstF_iff (l := xs) hxi (hI.st.snd x (hI.st.goal x (List.mem_of_getElem? hxi)))
    repeat (first | refine g_endt ?_ | refine g_end ?_ | refine g_then ?_ | refine g_in_normal ?_ | refine g_then_ret ?_ | refine g_in_ret ?_ | refine g_then_exit ?_ | refine g_in_exit rfl ?_ | refine g_in_exit_ne (by decide) ?_ | refine g_seq ?_ | refine g_region ?_ | refine g_block ?_ | refine g_ret ?_ | refine g_return_n ?_ | refine g_exit ?_ | refine g_skip ?_)
    refine o_move ?_
    refine o_move ?_
    refine o_indexR (ys := gs) (i := i) rfl rfl rfl hi' hg rfl ?_
    refine o_loadE (ys := gs) rfl rfl hxi ?_
    refine o_slice_lit (e := 31) x.val.cells (fun w => by kernel_rfl) fun b => ?_
    refine o_assign ?_
    first | refine g_endt ?_ | refine g_end ?_
    refine G.lit_q 31 (enc := encS) (sz := 3) b x.val.cells [x] (n := 1) rfl (by simp [encS]) (by simp [maxLen]) ?_
    by_cases hf : f x = (i : Int) + 1
    · have hfirst := hfi.2 hf
      repeat (first | refine g_endt ?_ | refine g_end ?_ | refine g_then ?_ | refine g_in_normal ?_ | refine g_then_ret ?_ | refine g_in_ret ?_ | refine g_then_exit ?_ | refine g_in_exit rfl ?_ | refine g_in_exit_ne (by decide) ?_ | refine g_seq ?_ | refine g_region ?_ | refine g_block ?_ | refine g_ret ?_ | refine g_return_n ?_ | refine g_exit ?_ | refine g_skip ?_)
      refine g_loop (σ := {t : Nat × ((Option Addr × Nat) × List SymD) × (Option Addr × Nat) × List LvD × (SymD → Int) // t.1 ≤ 1 + (gs.length + xs.length) ∧ RunJ gs xs i t.1 none 0 t.2.1.2 t.2.2.2.1 t.2.2.2.2})
        (S := fun t => [(0, .slice A n c), (1, .slice B m d), (5, .slice t.1.2.2.1.1 t.1.2.2.2.1.length t.1.2.2.1.2), (7, .int .i64 (i : Int)), (8, .slice t.1.2.1.1.1 t.1.2.1.2.length t.1.2.1.1.2)])
        (H := fun t => [owL t.1.2.2.1.1 t.1.2.2.1.2 t.1.2.2.2.1, qS t.1.2.1.1.1 t.1.2.1.1.2 t.1.2.1.2, psl encS 3 A gs, psl encE 12 B xs]) (μ := fun t => t.1.1)
        (s0 := ⟨(1 + (gs.length + xs.length), ((some ⟨b, 0, none⟩, 1), [x]), (S, e), out, f), Nat.le_refl _, RunJ.begin hI hxi hf⟩) (Sat.mem ⟨rfl, rfl, rfl, rfl, rfl, trivial⟩) ?_
      clear hol hf hI hfi f out S e
      rintro ⟨⟨k, ⟨⟨T, g⟩, todo⟩, ⟨S, e⟩, out, f⟩, hk, hR⟩ ρ3
      dsimp only at hk hR ⊢
      have hol := hR.len
      have hmu := hR.mu
      cases todo with
      | nil =>
        repeat (first | refine g_endt ?_ | refine g_end ?_ | refine g_then ?_ | refine g_in_normal ?_ | refine g_then_ret ?_ | refine g_in_ret ?_ | refine g_then_exit ?_ | refine g_in_exit rfl ?_ | refine g_in_exit_ne (by decide) ?_ | refine g_seq ?_ | refine g_region ?_ | refine g_block ?_ | refine g_ret ?_ | refine g_return_n ?_ | refine g_exit ?_ | refine g_skip ?_)
        refine o_move ?_
        refine o_len rfl rfl ?_
        refine o_gtr rfl rfl ?_
        rw [show decide (((([] : List SymD).length : Nat) : Int) > 0) = false from rfl]
        refine o_move ?_
        first | (refine o_want rfl rfl rfl rfl rfl ?_; refine o_move ?_) | refine o_unwanted rfl rfl rfl rfl rfl ?_ | refine o_undef rfl rfl rfl ?_
        first | (refine o_want rfl rfl rfl rfl rfl ?_; refine o_move ?_) | refine o_unwanted rfl rfl rfl rfl rfl ?_ | refine o_undef rfl rfl rfl ?_
        first | (refine o_want rfl rfl rfl rfl rfl ?_; refine o_move ?_) | refine o_unwanted rfl rfl rfl rfl rfl ?_ | refine o_undef rfl rfl rfl ?_
        first | (refine o_want rfl rfl rfl rfl rfl ?_; refine o_indexR rfl rfl rfl (by first | assumption | omega) (by first | rfl | assumption | omega) rfl ?_) | refine o_unwanted rfl rfl rfl rfl rfl ?_ | refine o_undef rfl rfl rfl ?_
        first | (refine o_want rfl rfl rfl rfl rfl ?_; (first | refine o_loadN rfl rfl rfl ?_ | refine o_loadE rfl rfl (by assumption) ?_ | refine o_loadEN rfl (by assumption) rfl rfl ?_)) | refine o_unwanted rfl rfl rfl rfl rfl ?_ | refine o_undef rfl rfl rfl ?_
        first | refine o_unwanted rfl rfl rfl rfl rfl ?_ | refine o_undef rfl rfl rfl ?_
        first | (refine o_want rfl rfl rfl rfl rfl ?_; refine o_move ?_) | refine o_unwanted rfl rfl rfl rfl rfl ?_ | refine o_undef rfl rfl rfl ?_
        first | (refine o_want rfl rfl rfl rfl rfl ?_; refine o_eql rfl rfl ?_) | refine o_unwanted rfl rfl rfl rfl rfl ?_ | refine o_undef rfl rfl rfl ?_
        first | refine o_pick_t rfl rfl ?_ | refine o_pick_f rfl rfl ?_
        first | refine g_endt ?_ | refine g_end ?_
        first | refine g_seq (g_cond_f rfl (by first | rfl | (simp; done) | (simp; omega) | (simp; assumption)) ?_) | refine g_cond_f rfl (by first | rfl | (simp; done) | (simp; omega) | (simp; assumption)) ?_
        repeat (first | refine g_endt ?_ | refine g_end ?_ | refine g_then ?_ | refine g_in_normal ?_ | refine g_then_ret ?_ | refine g_in_ret ?_ | refine g_then_exit ?_ | refine g_in_exit rfl ?_ | refine g_in_exit_ne (by decide) ?_ | refine g_seq ?_ | refine g_region ?_ | refine g_block ?_ | refine g_ret ?_ | refine g_return_n ?_ | refine g_exit ?_ | refine g_skip ?_)
        refine o_move ?_
        refine o_add (c := ((i + 1 : Nat) : Int)) rfl rfl (by omega) (by omega) (by omega) ?_
        refine o_assign ?_
        first | refine g_endt ?_ | refine g_end ?_
        repeat (first | refine g_endt ?_ | refine g_end ?_ | refine g_then ?_ | refine g_in_normal ?_ | refine g_then_ret ?_ | refine g_in_ret ?_ | refine g_then_exit ?_ | refine g_in_exit rfl ?_ | refine g_in_exit_ne (by decide) ?_ | refine g_seq ?_ | refine g_region ?_ | refine g_block ?_ | refine g_ret ?_ | refine g_return_n ?_ | refine g_exit ?_ | refine g_skip ?_)
        exact g_meets (⟨(i + 1, (S, e), out, f), hR.done h⟩) (by first | exact trivial | (dsimp only; omega)) (Sat.mem (by repeat (first | exact trivial | refine And.intro rfl ?_)))
      | cons s rest =>
        obtain ⟨hk0, hP⟩ := hR.pop
        repeat (first | refine g_endt ?_ | refine g_end ?_ | refine g_then ?_ | refine g_in_normal ?_ | refine g_then_ret ?_ | refine g_in_ret ?_ | refine g_then_exit ?_ | refine g_in_exit rfl ?_ | refine g_in_exit_ne (by decide) ?_ | refine g_seq ?_ | refine g_region ?_ | refine g_block ?_ | refine g_ret ?_ | refine g_return_n ?_ | refine g_exit ?_ | refine g_skip ?_)
        refine o_move ?_
        refine o_len rfl rfl ?_
        refine o_gtr rfl rfl ?_
        rw [show decide ((((s :: rest).length : Nat) : Int) > 0) = true from decide_eq_true (by first | (simp; done) | (simp; omega))]
        refine o_move ?_
        first | (refine o_want rfl rfl rfl rfl rfl ?_; refine o_move ?_) | refine o_unwanted rfl rfl rfl rfl rfl ?_ | refine o_undef rfl rfl rfl ?_
        first | (refine o_want rfl rfl rfl rfl rfl ?_; refine o_move ?_) | refine o_unwanted rfl rfl rfl rfl rfl ?_ | refine o_undef rfl rfl rfl ?_
        first | (refine o_want rfl rfl rfl rfl rfl ?_; refine o_move ?_) | refine o_unwanted rfl rfl rfl rfl rfl ?_ | refine o_undef rfl rfl rfl ?_
        refine o_want rfl rfl rfl rfl rfl (o_indexR (ys := gs) (i := i) rfl rfl rfl hi' hg rfl ?_)
        refine o_want rfl rfl rfl rfl rfl (o_loadE (ys := gs) rfl rfl hxi ?_)
        refine o_want rfl rfl rfl rfl rfl (o_callp (first10_spec A n c gs x hg (by omega)) rfl rfl ?_)
        rintro _ _ ⟨rfl, rfl⟩
        first | (refine o_want rfl rfl rfl rfl rfl ?_; refine o_move ?_) | refine o_unwanted rfl rfl rfl rfl rfl ?_ | refine o_undef rfl rfl rfl ?_
        first | (refine o_want rfl rfl rfl rfl rfl ?_; refine o_eql rfl rfl ?_) | refine o_unwanted rfl rfl rfl rfl rfl ?_ | refine o_undef rfl rfl rfl ?_
        first | refine o_pick_t rfl rfl ?_ | refine o_pick_f rfl rfl ?_
        first | refine g_endt ?_ | refine g_end ?_
        first | refine g_seq (g_cond_t rfl (by rw [hfirst]; simp) ?_) | refine g_cond_t rfl (by rw [hfirst]; simp) ?_
        repeat (first | refine g_endt ?_ | refine g_end ?_ | refine g_then ?_ | refine g_in_normal ?_ | refine g_then_ret ?_ | refine g_in_ret ?_ | refine g_then_exit ?_ | refine g_in_exit rfl ?_ | refine g_in_exit_ne (by decide) ?_ | refine g_seq ?_ | refine g_region ?_ | refine g_block ?_ | refine g_ret ?_ | refine g_return_n ?_ | refine g_exit ?_ | refine g_skip ?_)
        refine o_move ?_
        refine o_indexR (ys := s :: rest) (i := 0) rfl rfl rfl (by simp) rfl rfl ?_
        refine o_loadE (ys := s :: rest) (i := 0) rfl rfl rfl ?_
        refine o_alloc fun c9 => ?_
        refine o_store (v := s.val) rfl rfl rfl rfl rfl ?_
        first | refine g_endt ?_ | refine g_end ?_
        refine G.norm c9 s.val.cells rfl ?_
        repeat (first | refine g_endt ?_ | refine g_end ?_ | refine g_then ?_ | refine g_in_normal ?_ | refine g_then_ret ?_ | refine g_in_ret ?_ | refine g_then_exit ?_ | refine g_in_exit rfl ?_ | refine g_in_exit_ne (by decide) ?_ | refine g_seq ?_ | refine g_region ?_ | refine g_block ?_ | refine g_ret ?_ | refine g_return_n ?_ | refine g_exit ?_ | refine g_skip ?_)
        refine o_move ?_
        refine o_fromP (k := 1) rfl rfl rfl (by simp) ?_
        refine o_assign ?_
        first | refine g_endt ?_ | refine g_end ?_
        refine G.qdrop (e := 31) (enc := encS) (sz := 3) (c := g) (S := T) (xs := s :: rest) 1 (by simp) ?_
        change G _ _ (qS (offA T g 1 3) (g - 1) rest :: _) _
        repeat (first | refine g_endt ?_ | refine g_end ?_ | refine g_then ?_ | refine g_in_normal ?_ | refine g_then_ret ?_ | refine g_in_ret ?_ | refine g_then_exit ?_ | refine g_in_exit rfl ?_ | refine g_in_exit_ne (by decide) ?_ | refine g_seq ?_ | refine g_region ?_ | refine g_block ?_ | refine g_ret ?_ | refine g_return_n ?_ | refine g_exit ?_ | refine g_skip ?_)
        refine o_assign ?_
        first | refine g_endt ?_ | refine g_end ?_
        repeat (first | refine g_endt ?_ | refine g_end ?_ | refine g_then ?_ | refine g_in_normal ?_ | refine g_then_ret ?_ | refine g_in_ret ?_ | refine g_then_exit ?_ | refine g_in_exit rfl ?_ | refine g_in_exit_ne (by decide) ?_ | refine g_seq ?_ | refine g_region ?_ | refine g_block ?_ | refine g_ret ?_ | refine g_return_n ?_ | refine g_exit ?_ | refine g_skip ?_)
        refine g_loop (σ := {t : Nat × ((Option Addr × Nat) × List SymD) × (Option Addr × Nat) × List LvD × (SymD → Int) // t.1 ≤ m ∧ RunJ gs xs i (k - 1) (some s) t.1 t.2.1.2 t.2.2.2.1 t.2.2.2.2})
          (S := fun t => [(0, .slice A n c), (1, .slice B m d), (5, .slice t.1.2.2.1.1 t.1.2.2.2.1.length t.1.2.2.1.2), (7, .int .i64 (i : Int)), (8, .slice t.1.2.1.1.1 t.1.2.1.2.length t.1.2.1.1.2), (9, .pointer (some ⟨c9, 0, none⟩)), (10, .int .i64 (t.1.1 : Int))])
          (H := fun t => [owL t.1.2.2.1.1 t.1.2.2.1.2 t.1.2.2.2.1, qS t.1.2.1.1.1 t.1.2.1.1.2 t.1.2.1.2, cellsB c9 s.val.cells 31, psl encS 3 A gs, psl encE 12 B xs]) (μ := fun t => m - t.1.1)
          (s0 := ⟨(0, ((offA T g 1 3, g - 1), rest), (S, e), out, f), Nat.zero_le _, hP⟩) (Sat.mem ⟨rfl, rfl, rfl, rfl, rfl, rfl, rfl, trivial⟩) ?_
        clear hol hmu hR hP f out S e T g
        rintro ⟨⟨j, ⟨⟨T, g⟩, todo⟩, ⟨S, e⟩, out, f⟩, hj, hR⟩ ρ4
        dsimp only at hj hR ⊢
        have hol := hR.len
        have hmu := hR.mu
        repeat (first | refine g_endt ?_ | refine g_end ?_ | refine g_then ?_ | refine g_in_normal ?_ | refine g_then_ret ?_ | refine g_in_ret ?_ | refine g_then_exit ?_ | refine g_in_exit rfl ?_ | refine g_in_exit_ne (by decide) ?_ | refine g_seq ?_ | refine g_region ?_ | refine g_block ?_ | refine g_ret ?_ | refine g_return_n ?_ | refine g_exit ?_ | refine g_skip ?_)
        refine o_move ?_
        refine o_move ?_
        refine o_len rfl rfl ?_
        refine o_lss rfl rfl ?_
        first | refine g_endt ?_ | refine g_end ?_
        by_cases hjm : j < m
        · first | refine g_seq (g_cond_t rfl (by first | rfl | (simp; done) | (simp; omega) | (simp; assumption)) ?_) | refine g_cond_t rfl (by first | rfl | (simp; done) | (simp; omega) | (simp; assumption)) ?_
          have hj' : j < xs.length := by omega
          have hxpos : 0 < xs.length := by omega
          obtain ⟨el, he⟩ : ∃ el, xs[j]? = some el := ⟨_, List.getElem?_eq_getElem hj'⟩
          repeat (first | refine g_endt ?_ | refine g_end ?_ | refine g_then ?_ | refine g_in_normal ?_ | refine g_then_ret ?_ | refine g_in_ret ?_ | refine g_then_exit ?_ | refine g_in_exit rfl ?_ | refine g_in_exit_ne (by decide) ?_ | refine g_seq ?_ | refine g_region ?_ | refine g_block ?_ | refine g_ret ?_ | refine g_return_n ?_ | refine g_exit ?_ | refine g_skip ?_)
          refine o_move ?_
          refine o_move ?_
          refine o_indexR (ys := xs) (i := j) rfl rfl rfl hj' hx rfl ?_
          refine o_fieldR (ys := xs) rfl hxpos ?_
          refine o_loadEN (off := 6) (ys := xs) (v := el.value.val) rfl he rfl rfl ?_
          refine o_alloc fun c11 => ?_
          refine o_store (v := el.value.val) rfl rfl rfl rfl rfl ?_
          first | refine g_endt ?_ | refine g_end ?_
          refine G.norm c11 el.value.val.cells rfl ?_
          cases hb : el.id.beq s with
          | false =>
            have hne : some s ≠ some el.id := fun e => by cases e; rw [(SymD.beq_iff _ _).2 rfl] at hb; cases hb
            repeat (first | refine g_endt ?_ | refine g_end ?_ | refine g_then ?_ | refine g_in_normal ?_ | refine g_then_ret ?_ | refine g_in_ret ?_ | refine g_then_exit ?_ | refine g_in_exit rfl ?_ | refine g_in_exit_ne (by decide) ?_ | refine g_seq ?_ | refine g_region ?_ | refine g_block ?_ | refine g_ret ?_ | refine g_return_n ?_ | refine g_exit ?_ | refine g_skip ?_)
            refine g_draw [] [0,1,2,3,4,5,6,7,8,9,10,11,12,13,14,15,16,17] [owL S e out, qS T g todo, cellsB c9 s.val.cells 31, cellsB c11 el.value.val.cells 31, psl encS 3 A gs, psl encE 12 B xs] mixed rfl ?_
            refine ob_q rfl rfl ⟨_, fun X Q h => o_move (g_end (h _ _ ⟨rfl, rfl⟩)), ?_⟩
            refine ob_q rfl rfl ⟨_, fun X Q h => o_move (g_end (h _ _ ⟨rfl, rfl⟩)), ?_⟩
            refine ob_q rfl rfl ⟨_, fun X Q h => o_indexR (ys := xs) (i := j) rfl rfl rfl hj' hx rfl (g_end (h _ _ ⟨rfl, rfl⟩)), ?_⟩
            refine ob_q rfl rfl ⟨_, fun X Q h => o_fieldR (ys := xs) rfl hxpos (g_end (h _ _ ⟨rfl, rfl⟩)), ?_⟩
            refine ob_q rfl rfl ⟨_, fun X Q h => o_loadEN (off := 0) (ys := xs) (v := el.id.val) rfl he rfl rfl (g_end (h _ _ ⟨rfl, rfl⟩)), ?_⟩
            refine ob_q rfl rfl ⟨_, fun X Q h => o_loadN (v := s.val) rfl rfl rfl (g_end (h _ _ ⟨rfl, rfl⟩)), ?_⟩
            refine ob_q rfl rfl ⟨_, fun X Q h => o_eqty rfl rfl (eq_sym el.id s) (g_end (h _ _ ⟨rfl, rfl⟩)), ?_⟩
            rw [hb]
            refine ob_q rfl rfl ⟨_, fun X Q h => o_move (g_end (h _ _ ⟨rfl, rfl⟩)), ?_⟩
            first | refine ob_q rfl rfl ⟨_, fun X Q h => o_want rfl rfl rfl rfl rfl <| o_field rfl (g_end (h _ _ ⟨rfl, rfl⟩)), ?_⟩ | refine ob_q rfl rfl ⟨_, fun X Q h => o_want rfl rfl rfl rfl rfl <| o_fieldR rfl (by omega) (g_end (h _ _ ⟨rfl, rfl⟩)), ?_⟩ | refine ob_q rfl rfl ⟨_, fun X Q h => o_unwanted rfl rfl rfl rfl rfl (g_end (h _ _ ⟨rfl, rfl⟩)), ?_⟩ | refine ob_q rfl rfl ⟨_, fun X Q h => o_undef rfl rfl rfl (g_end (h _ _ ⟨rfl, rfl⟩)), ?_⟩
            first | refine ob_q rfl rfl ⟨_, fun X Q h => o_want rfl rfl rfl rfl rfl <| o_load1 rfl rfl (g_end (h _ _ ⟨rfl, rfl⟩)), ?_⟩ | refine ob_q rfl rfl ⟨_, fun X Q h => o_want rfl rfl rfl rfl rfl <| o_loadE0 rfl (by assumption) rfl (g_end (h _ _ ⟨rfl, rfl⟩)), ?_⟩ | refine ob_q rfl rfl ⟨_, fun X Q h => o_want rfl rfl rfl rfl rfl <| o_loadE1 rfl (by assumption) rfl (g_end (h _ _ ⟨rfl, rfl⟩)), ?_⟩ | refine ob_q rfl rfl ⟨_, fun X Q h => o_unwanted rfl rfl rfl rfl rfl (g_end (h _ _ ⟨rfl, rfl⟩)), ?_⟩ | refine ob_q rfl rfl ⟨_, fun X Q h => o_undef rfl rfl rfl (g_end (h _ _ ⟨rfl, rfl⟩)), ?_⟩
            first | refine ob_q rfl rfl ⟨_, fun X Q h => o_want rfl rfl rfl rfl rfl <| o_eql rfl rfl (g_end (h _ _ ⟨rfl, rfl⟩)), ?_⟩ | refine ob_q rfl rfl ⟨_, fun X Q h => o_unwanted rfl rfl rfl rfl rfl (g_end (h _ _ ⟨rfl, rfl⟩)), ?_⟩ | refine ob_q rfl rfl ⟨_, fun X Q h => o_undef rfl rfl rfl (g_end (h _ _ ⟨rfl, rfl⟩)), ?_⟩
            first | refine ob_q rfl rfl ⟨_, fun X Q h => o_pick_t rfl rfl (g_end (h _ _ ⟨rfl, rfl⟩)), ?_⟩ | refine ob_q rfl rfl ⟨_, fun X Q h => o_pick_f rfl rfl (g_end (h _ _ ⟨rfl, rfl⟩)), ?_⟩
            refine ob_q rfl rfl ⟨_, fun X Q h => o_move (g_end (h _ _ ⟨rfl, rfl⟩)), ?_⟩
            first | refine ob_q rfl rfl ⟨_, fun X Q h => o_want rfl rfl rfl rfl rfl <| o_move (g_end (h _ _ ⟨rfl, rfl⟩)), ?_⟩ | refine ob_q rfl rfl ⟨_, fun X Q h => o_unwanted rfl rfl rfl rfl rfl (g_end (h _ _ ⟨rfl, rfl⟩)), ?_⟩ | refine ob_q rfl rfl ⟨_, fun X Q h => o_undef rfl rfl rfl (g_end (h _ _ ⟨rfl, rfl⟩)), ?_⟩
            first | refine ob_q rfl rfl ⟨_, fun X Q h => o_want rfl rfl rfl rfl rfl <| o_loadN rfl rfl rfl (g_end (h _ _ ⟨rfl, rfl⟩)), ?_⟩ | refine ob_q rfl rfl ⟨_, fun X Q h => o_want rfl rfl rfl rfl rfl <| o_loadE rfl rfl (by assumption) (g_end (h _ _ ⟨rfl, rfl⟩)), ?_⟩ | refine ob_q rfl rfl ⟨_, fun X Q h => o_want rfl rfl rfl rfl rfl <| o_loadEN rfl (by assumption) rfl rfl (g_end (h _ _ ⟨rfl, rfl⟩)), ?_⟩ | refine ob_q rfl rfl ⟨_, fun X Q h => o_unwanted rfl rfl rfl rfl rfl (g_end (h _ _ ⟨rfl, rfl⟩)), ?_⟩ | refine ob_q rfl rfl ⟨_, fun X Q h => o_undef rfl rfl rfl (g_end (h _ _ ⟨rfl, rfl⟩)), ?_⟩
            first | refine ob_q rfl rfl ⟨_, fun X Q h => o_unwanted rfl rfl rfl rfl rfl (g_end (h _ _ ⟨rfl, rfl⟩)), ?_⟩ | refine ob_q rfl rfl ⟨_, fun X Q h => o_undef rfl rfl rfl (g_end (h _ _ ⟨rfl, rfl⟩)), ?_⟩
            first | refine ob_q rfl rfl ⟨_, fun X Q h => o_want rfl rfl rfl rfl rfl <| o_eql rfl rfl (g_end (h _ _ ⟨rfl, rfl⟩)), ?_⟩ | refine ob_q rfl rfl ⟨_, fun X Q h => o_unwanted rfl rfl rfl rfl rfl (g_end (h _ _ ⟨rfl, rfl⟩)), ?_⟩ | refine ob_q rfl rfl ⟨_, fun X Q h => o_undef rfl rfl rfl (g_end (h _ _ ⟨rfl, rfl⟩)), ?_⟩
            first | refine ob_q rfl rfl ⟨_, fun X Q h => o_pick_t rfl rfl (g_end (h _ _ ⟨rfl, rfl⟩)), ?_⟩ | refine ob_q rfl rfl ⟨_, fun X Q h => o_pick_f rfl rfl (g_end (h _ _ ⟨rfl, rfl⟩)), ?_⟩
            refine ob_nil ?_
            first | refine g_seq (g_cond_f rfl (by first | rfl | (simp; done) | (simp; omega) | (simp; assumption)) ?_) | refine g_cond_f rfl (by first | rfl | (simp; done) | (simp; omega) | (simp; assumption)) ?_
            repeat (first | refine g_endt ?_ | refine g_end ?_ | refine g_then ?_ | refine g_in_normal ?_ | refine g_then_ret ?_ | refine g_in_ret ?_ | refine g_then_exit ?_ | refine g_in_exit rfl ?_ | refine g_in_exit_ne (by decide) ?_ | refine g_seq ?_ | refine g_region ?_ | refine g_block ?_ | refine g_ret ?_ | refine g_return_n ?_ | refine g_exit ?_ | refine g_skip ?_)
            refine o_move ?_
            refine o_add (c := ((j + 1 : Nat) : Int)) rfl rfl (by omega) (by omega) (by omega) ?_
            refine o_assign ?_
            first | refine g_endt ?_ | refine g_end ?_
            repeat (first | refine g_endt ?_ | refine g_end ?_ | refine g_then ?_ | refine g_in_normal ?_ | refine g_then_ret ?_ | refine g_in_ret ?_ | refine g_then_exit ?_ | refine g_in_exit rfl ?_ | refine g_in_exit_ne (by decide) ?_ | refine g_seq ?_ | refine g_region ?_ | refine g_block ?_ | refine g_ret ?_ | refine g_return_n ?_ | refine g_exit ?_ | refine g_skip ?_)
            exact g_meets (⟨(j + 1, ((T, g), todo), (S, e), out, f), hjm, hR.next he fun h => absurd h hne⟩) (by first | exact trivial | (dsimp only; omega)) (Sat.mem (by repeat (first | exact trivial | refine And.intro rfl ?_)))
          | true =>
            have hid := (SymD.beq_iff _ _).1 hb
            by_cases hk1 : el.value.kind = 1
            · have hofv := hR.tab.all el.value
              by_cases hf : f el.value = 0
              · skip
                repeat (first | refine g_endt ?_ | refine g_end ?_ | refine g_then ?_ | refine g_in_normal ?_ | refine g_then_ret ?_ | refine g_in_ret ?_ | refine g_then_exit ?_ | refine g_in_exit rfl ?_ | refine g_in_exit_ne (by decide) ?_ | refine g_seq ?_ | refine g_region ?_ | refine g_block ?_ | refine g_ret ?_ | refine g_return_n ?_ | refine g_exit ?_ | refine g_skip ?_)
                refine g_draw [] [0,1,2,3,4,5,6,7,8,9,10,11,12,13,14,15,16,17] [owL S e out, qS T g todo, cellsB c9 s.val.cells 31, cellsB c11 el.value.val.cells 31, psl encS 3 A gs, psl encE 12 B xs] mixed rfl ?_
                refine ob_q rfl rfl ⟨_, fun X Q h => o_move (g_end (h _ _ ⟨rfl, rfl⟩)), ?_⟩
                refine ob_q rfl rfl ⟨_, fun X Q h => o_move (g_end (h _ _ ⟨rfl, rfl⟩)), ?_⟩
                refine ob_q rfl rfl ⟨_, fun X Q h => o_indexR (ys := xs) (i := j) rfl rfl rfl hj' hx rfl (g_end (h _ _ ⟨rfl, rfl⟩)), ?_⟩
                refine ob_q rfl rfl ⟨_, fun X Q h => o_fieldR (ys := xs) rfl hxpos (g_end (h _ _ ⟨rfl, rfl⟩)), ?_⟩
                refine ob_q rfl rfl ⟨_, fun X Q h => o_loadEN (off := 0) (ys := xs) (v := el.id.val) rfl he rfl rfl (g_end (h _ _ ⟨rfl, rfl⟩)), ?_⟩
                refine ob_q rfl rfl ⟨_, fun X Q h => o_loadN (v := s.val) rfl rfl rfl (g_end (h _ _ ⟨rfl, rfl⟩)), ?_⟩
                refine ob_q rfl rfl ⟨_, fun X Q h => o_eqty rfl rfl (eq_sym el.id s) (g_end (h _ _ ⟨rfl, rfl⟩)), ?_⟩
                rw [hb]
                refine ob_q rfl rfl ⟨_, fun X Q h => o_move (g_end (h _ _ ⟨rfl, rfl⟩)), ?_⟩
                first | refine ob_q rfl rfl ⟨_, fun X Q h => o_want rfl rfl rfl rfl rfl <| o_field rfl (g_end (h _ _ ⟨rfl, rfl⟩)), ?_⟩ | refine ob_q rfl rfl ⟨_, fun X Q h => o_want rfl rfl rfl rfl rfl <| o_fieldR rfl (by omega) (g_end (h _ _ ⟨rfl, rfl⟩)), ?_⟩ | refine ob_q rfl rfl ⟨_, fun X Q h => o_unwanted rfl rfl rfl rfl rfl (g_end (h _ _ ⟨rfl, rfl⟩)), ?_⟩ | refine ob_q rfl rfl ⟨_, fun X Q h => o_undef rfl rfl rfl (g_end (h _ _ ⟨rfl, rfl⟩)), ?_⟩
                refine ob_q rfl rfl ⟨_, fun X Q h => o_want rfl rfl rfl rfl rfl <| o_load1 (v := .int .i64 el.value.kind) rfl rfl (g_end (h _ _ ⟨rfl, rfl⟩)), ?_⟩
                first | refine ob_q rfl rfl ⟨_, fun X Q h => o_want rfl rfl rfl rfl rfl <| o_eql rfl rfl (g_end (h _ _ ⟨rfl, rfl⟩)), ?_⟩ | refine ob_q rfl rfl ⟨_, fun X Q h => o_unwanted rfl rfl rfl rfl rfl (g_end (h _ _ ⟨rfl, rfl⟩)), ?_⟩ | refine ob_q rfl rfl ⟨_, fun X Q h => o_undef rfl rfl rfl (g_end (h _ _ ⟨rfl, rfl⟩)), ?_⟩
                rw [show (el.value.kind == 1) = true from by simpa using hk1]
                first | refine ob_q rfl rfl ⟨_, fun X Q h => o_pick_t rfl rfl (g_end (h _ _ ⟨rfl, rfl⟩)), ?_⟩ | refine ob_q rfl rfl ⟨_, fun X Q h => o_pick_f rfl rfl (g_end (h _ _ ⟨rfl, rfl⟩)), ?_⟩
                refine ob_q rfl rfl ⟨_, fun X Q h => o_move (g_end (h _ _ ⟨rfl, rfl⟩)), ?_⟩
                first | refine ob_q rfl rfl ⟨_, fun X Q h => o_want rfl rfl rfl rfl rfl <| o_move (g_end (h _ _ ⟨rfl, rfl⟩)), ?_⟩ | refine ob_q rfl rfl ⟨_, fun X Q h => o_unwanted rfl rfl rfl rfl rfl (g_end (h _ _ ⟨rfl, rfl⟩)), ?_⟩ | refine ob_q rfl rfl ⟨_, fun X Q h => o_undef rfl rfl rfl (g_end (h _ _ ⟨rfl, rfl⟩)), ?_⟩
                refine ob_q rfl rfl ⟨_, fun X Q h => o_want rfl rfl rfl rfl rfl <| o_loadN (v := el.value.val) rfl rfl rfl (g_end (h _ _ ⟨rfl, rfl⟩)), ?_⟩
                refine ob_q rfl rfl ⟨_, fun X Q h => o_want rfl rfl rfl rfl rfl <| o_call (Of10_spec (owL S e out) S out.length e out el.value rfl (by omega)) rfl rfl <| by rintro _ _ ⟨rfl, rfl⟩; exact (g_end (h _ _ ⟨rfl, rfl⟩)), ?_⟩
                first | refine ob_q rfl rfl ⟨_, fun X Q h => o_want rfl rfl rfl rfl rfl <| o_eql rfl rfl (g_end (h _ _ ⟨rfl, rfl⟩)), ?_⟩ | refine ob_q rfl rfl ⟨_, fun X Q h => o_unwanted rfl rfl rfl rfl rfl (g_end (h _ _ ⟨rfl, rfl⟩)), ?_⟩ | refine ob_q rfl rfl ⟨_, fun X Q h => o_undef rfl rfl rfl (g_end (h _ _ ⟨rfl, rfl⟩)), ?_⟩
                first | refine ob_q rfl rfl ⟨_, fun X Q h => o_pick_t rfl rfl (g_end (h _ _ ⟨rfl, rfl⟩)), ?_⟩ | refine ob_q rfl rfl ⟨_, fun X Q h => o_pick_f rfl rfl (g_end (h _ _ ⟨rfl, rfl⟩)), ?_⟩
                refine ob_nil ?_
                first | refine g_seq (g_cond_t rfl (by rw [hofv, hf]; rfl) ?_) | refine g_cond_t rfl (by rw [hofv, hf]; rfl) ?_
                repeat (first | refine g_endt ?_ | refine g_end ?_ | refine g_then ?_ | refine g_in_normal ?_ | refine g_then_ret ?_ | refine g_in_ret ?_ | refine g_then_exit ?_ | refine g_in_exit rfl ?_ | refine g_in_exit_ne (by decide) ?_ | refine g_seq ?_ | refine g_region ?_ | refine g_block ?_ | refine g_ret ?_ | refine g_return_n ?_ | refine g_exit ?_ | refine g_skip ?_)
                refine o_move ?_
                refine o_loadN (v := el.value.val) rfl rfl rfl ?_
                refine o_move ?_
                refine o_add (c := (i : Int) + 1) rfl rfl rfl (by omega) (by omega) ?_
                refine o_build ((LvD.val ⟨el.value, (i : Int) + 1⟩)) (fun w => by kernel_rfl) ?_
                refine o_litP (e := 91) encL [⟨el.value, (i : Int) + 1⟩] (LvD.val ⟨el.value, (i : Int) + 1⟩).cells (fun w => by kernel_rfl) (by simp [encL]) (by simp [maxLen]) fun _ => ?_
                refine o_append (xs := out) (ys := [⟨el.value, (i : Int) + 1⟩]) rfl rfl rfl rfl rfl (fun _ => .inr trivial) (by simp [maxLen]; omega) (by simp; omega) fun S2 e2 => ?_
                refine o_assign ?_
                first | refine g_endt ?_ | refine g_end ?_
                repeat (first | refine g_endt ?_ | refine g_end ?_ | refine g_then ?_ | refine g_in_normal ?_ | refine g_then_ret ?_ | refine g_in_ret ?_ | refine g_then_exit ?_ | refine g_in_exit rfl ?_ | refine g_in_exit_ne (by decide) ?_ | refine g_seq ?_ | refine g_region ?_ | refine g_block ?_ | refine g_ret ?_ | refine g_return_n ?_ | refine g_exit ?_ | refine g_skip ?_)
                refine o_move ?_
                refine o_loadN (v := el.value.val) rfl rfl rfl ?_
                refine o_litP (e := 31) encS [el.value] (el.value).val.cells (fun w => by kernel_rfl) (by simp [encS]) (by simp [maxLen]) fun _ => ?_
                refine o_appendq (xs := todo) (ys := [el.value]) rfl rfl rfl rfl rfl (by decide) (by simp [maxLen]; omega) (by simp; omega) fun T2 g2 => ?_
                refine o_assign ?_
                first | refine g_endt ?_ | refine g_end ?_
                repeat (first | refine g_endt ?_ | refine g_end ?_ | refine g_then ?_ | refine g_in_normal ?_ | refine g_then_ret ?_ | refine g_in_ret ?_ | refine g_then_exit ?_ | refine g_in_exit rfl ?_ | refine g_in_exit_ne (by decide) ?_ | refine g_seq ?_ | refine g_region ?_ | refine g_block ?_ | refine g_ret ?_ | refine g_return_n ?_ | refine g_exit ?_ | refine g_skip ?_)
                refine o_move ?_
                refine o_add (c := ((j + 1 : Nat) : Int)) rfl rfl (by omega) (by omega) (by omega) ?_
                refine o_assign ?_
                first | refine g_endt ?_ | refine g_end ?_
                repeat (first | refine g_endt ?_ | refine g_end ?_ | refine g_then ?_ | refine g_in_normal ?_ | refine g_then_ret ?_ | refine g_in_ret ?_ | refine g_then_exit ?_ | refine g_in_exit rfl ?_ | refine g_in_exit_ne (by decide) ?_ | refine g_seq ?_ | refine g_region ?_ | refine g_block ?_ | refine g_ret ?_ | refine g_return_n ?_ | refine g_exit ?_ | refine g_skip ?_)
                exact g_meets ⟨(j + 1, ((T2, g2), todo ++ [el.value]), (S2, e2), out ++ [⟨el.value, (i : Int) + 1⟩], updF f el.value ((i : Int) + 1)), hjm, hR.add hxi he hid hk1 hf⟩ (by show m - (j + 1) < m - j; omega) (Sat.mem ⟨rfl, rfl, slice_snoc _ _ _ _, rfl, slice_snoc _ _ _ _, rfl, rfl, trivial⟩)
              · skip
                repeat (first | refine g_endt ?_ | refine g_end ?_ | refine g_then ?_ | refine g_in_normal ?_ | refine g_then_ret ?_ | refine g_in_ret ?_ | refine g_then_exit ?_ | refine g_in_exit rfl ?_ | refine g_in_exit_ne (by decide) ?_ | refine g_seq ?_ | refine g_region ?_ | refine g_block ?_ | refine g_ret ?_ | refine g_return_n ?_ | refine g_exit ?_ | refine g_skip ?_)
                refine g_draw [] [0,1,2,3,4,5,6,7,8,9,10,11,12,13,14,15,16,17] [owL S e out, qS T g todo, cellsB c9 s.val.cells 31, cellsB c11 el.value.val.cells 31, psl encS 3 A gs, psl encE 12 B xs] mixed rfl ?_
                refine ob_q rfl rfl ⟨_, fun X Q h => o_move (g_end (h _ _ ⟨rfl, rfl⟩)), ?_⟩
                refine ob_q rfl rfl ⟨_, fun X Q h => o_move (g_end (h _ _ ⟨rfl, rfl⟩)), ?_⟩
                refine ob_q rfl rfl ⟨_, fun X Q h => o_indexR (ys := xs) (i := j) rfl rfl rfl hj' hx rfl (g_end (h _ _ ⟨rfl, rfl⟩)), ?_⟩
                refine ob_q rfl rfl ⟨_, fun X Q h => o_fieldR (ys := xs) rfl hxpos (g_end (h _ _ ⟨rfl, rfl⟩)), ?_⟩
                refine ob_q rfl rfl ⟨_, fun X Q h => o_loadEN (off := 0) (ys := xs) (v := el.id.val) rfl he rfl rfl (g_end (h _ _ ⟨rfl, rfl⟩)), ?_⟩
                refine ob_q rfl rfl ⟨_, fun X Q h => o_loadN (v := s.val) rfl rfl rfl (g_end (h _ _ ⟨rfl, rfl⟩)), ?_⟩
                refine ob_q rfl rfl ⟨_, fun X Q h => o_eqty rfl rfl (eq_sym el.id s) (g_end (h _ _ ⟨rfl, rfl⟩)), ?_⟩
                rw [hb]
                refine ob_q rfl rfl ⟨_, fun X Q h => o_move (g_end (h _ _ ⟨rfl, rfl⟩)), ?_⟩
                first | refine ob_q rfl rfl ⟨_, fun X Q h => o_want rfl rfl rfl rfl rfl <| o_field rfl (g_end (h _ _ ⟨rfl, rfl⟩)), ?_⟩ | refine ob_q rfl rfl ⟨_, fun X Q h => o_want rfl rfl rfl rfl rfl <| o_fieldR rfl (by omega) (g_end (h _ _ ⟨rfl, rfl⟩)), ?_⟩ | refine ob_q rfl rfl ⟨_, fun X Q h => o_unwanted rfl rfl rfl rfl rfl (g_end (h _ _ ⟨rfl, rfl⟩)), ?_⟩ | refine ob_q rfl rfl ⟨_, fun X Q h => o_undef rfl rfl rfl (g_end (h _ _ ⟨rfl, rfl⟩)), ?_⟩
                refine ob_q rfl rfl ⟨_, fun X Q h => o_want rfl rfl rfl rfl rfl <| o_load1 (v := .int .i64 el.value.kind) rfl rfl (g_end (h _ _ ⟨rfl, rfl⟩)), ?_⟩
                first | refine ob_q rfl rfl ⟨_, fun X Q h => o_want rfl rfl rfl rfl rfl <| o_eql rfl rfl (g_end (h _ _ ⟨rfl, rfl⟩)), ?_⟩ | refine ob_q rfl rfl ⟨_, fun X Q h => o_unwanted rfl rfl rfl rfl rfl (g_end (h _ _ ⟨rfl, rfl⟩)), ?_⟩ | refine ob_q rfl rfl ⟨_, fun X Q h => o_undef rfl rfl rfl (g_end (h _ _ ⟨rfl, rfl⟩)), ?_⟩
                rw [show (el.value.kind == 1) = true from by simpa using hk1]
                first | refine ob_q rfl rfl ⟨_, fun X Q h => o_pick_t rfl rfl (g_end (h _ _ ⟨rfl, rfl⟩)), ?_⟩ | refine ob_q rfl rfl ⟨_, fun X Q h => o_pick_f rfl rfl (g_end (h _ _ ⟨rfl, rfl⟩)), ?_⟩
                refine ob_q rfl rfl ⟨_, fun X Q h => o_move (g_end (h _ _ ⟨rfl, rfl⟩)), ?_⟩
                first | refine ob_q rfl rfl ⟨_, fun X Q h => o_want rfl rfl rfl rfl rfl <| o_move (g_end (h _ _ ⟨rfl, rfl⟩)), ?_⟩ | refine ob_q rfl rfl ⟨_, fun X Q h => o_unwanted rfl rfl rfl rfl rfl (g_end (h _ _ ⟨rfl, rfl⟩)), ?_⟩ | refine ob_q rfl rfl ⟨_, fun X Q h => o_undef rfl rfl rfl (g_end (h _ _ ⟨rfl, rfl⟩)), ?_⟩
                refine ob_q rfl rfl ⟨_, fun X Q h => o_want rfl rfl rfl rfl rfl <| o_loadN (v := el.value.val) rfl rfl rfl (g_end (h _ _ ⟨rfl, rfl⟩)), ?_⟩
                refine ob_q rfl rfl ⟨_, fun X Q h => o_want rfl rfl rfl rfl rfl <| o_call (Of10_spec (owL S e out) S out.length e out el.value rfl (by omega)) rfl rfl <| by rintro _ _ ⟨rfl, rfl⟩; exact (g_end (h _ _ ⟨rfl, rfl⟩)), ?_⟩
                first | refine ob_q rfl rfl ⟨_, fun X Q h => o_want rfl rfl rfl rfl rfl <| o_eql rfl rfl (g_end (h _ _ ⟨rfl, rfl⟩)), ?_⟩ | refine ob_q rfl rfl ⟨_, fun X Q h => o_unwanted rfl rfl rfl rfl rfl (g_end (h _ _ ⟨rfl, rfl⟩)), ?_⟩ | refine ob_q rfl rfl ⟨_, fun X Q h => o_undef rfl rfl rfl (g_end (h _ _ ⟨rfl, rfl⟩)), ?_⟩
                first | refine ob_q rfl rfl ⟨_, fun X Q h => o_pick_t rfl rfl (g_end (h _ _ ⟨rfl, rfl⟩)), ?_⟩ | refine ob_q rfl rfl ⟨_, fun X Q h => o_pick_f rfl rfl (g_end (h _ _ ⟨rfl, rfl⟩)), ?_⟩
                refine ob_nil ?_
                first | refine g_seq (g_cond_f rfl (by rw [hofv]; simpa using hf) ?_) | refine g_cond_f rfl (by rw [hofv]; simpa using hf) ?_
                repeat (first | refine g_endt ?_ | refine g_end ?_ | refine g_then ?_ | refine g_in_normal ?_ | refine g_then_ret ?_ | refine g_in_ret ?_ | refine g_then_exit ?_ | refine g_in_exit rfl ?_ | refine g_in_exit_ne (by decide) ?_ | refine g_seq ?_ | refine g_region ?_ | refine g_block ?_ | refine g_ret ?_ | refine g_return_n ?_ | refine g_exit ?_ | refine g_skip ?_)
                refine o_move ?_
                refine o_add (c := ((j + 1 : Nat) : Int)) rfl rfl (by omega) (by omega) (by omega) ?_
                refine o_assign ?_
                first | refine g_endt ?_ | refine g_end ?_
                repeat (first | refine g_endt ?_ | refine g_end ?_ | refine g_then ?_ | refine g_in_normal ?_ | refine g_then_ret ?_ | refine g_in_ret ?_ | refine g_then_exit ?_ | refine g_in_exit rfl ?_ | refine g_in_exit_ne (by decide) ?_ | refine g_seq ?_ | refine g_region ?_ | refine g_block ?_ | refine g_ret ?_ | refine g_return_n ?_ | refine g_exit ?_ | refine g_skip ?_)
                exact g_meets (⟨(j + 1, ((T, g), todo), (S, e), out, f), hjm, hR.next he fun _ _ => hf⟩) (by first | exact trivial | (dsimp only; omega)) (Sat.mem (by repeat (first | exact trivial | refine And.intro rfl ?_)))
            · skip
              repeat (first | refine g_endt ?_ | refine g_end ?_ | refine g_then ?_ | refine g_in_normal ?_ | refine g_then_ret ?_ | refine g_in_ret ?_ | refine g_then_exit ?_ | refine g_in_exit rfl ?_ | refine g_in_exit_ne (by decide) ?_ | refine g_seq ?_ | refine g_region ?_ | refine g_block ?_ | refine g_ret ?_ | refine g_return_n ?_ | refine g_exit ?_ | refine g_skip ?_)
              refine g_draw [] [0,1,2,3,4,5,6,7,8,9,10,11,12,13,14,15,16,17] [owL S e out, qS T g todo, cellsB c9 s.val.cells 31, cellsB c11 el.value.val.cells 31, psl encS 3 A gs, psl encE 12 B xs] mixed rfl ?_
              refine ob_q rfl rfl ⟨_, fun X Q h => o_move (g_end (h _ _ ⟨rfl, rfl⟩)), ?_⟩
              refine ob_q rfl rfl ⟨_, fun X Q h => o_move (g_end (h _ _ ⟨rfl, rfl⟩)), ?_⟩
              refine ob_q rfl rfl ⟨_, fun X Q h => o_indexR (ys := xs) (i := j) rfl rfl rfl hj' hx rfl (g_end (h _ _ ⟨rfl, rfl⟩)), ?_⟩
              refine ob_q rfl rfl ⟨_, fun X Q h => o_fieldR (ys := xs) rfl hxpos (g_end (h _ _ ⟨rfl, rfl⟩)), ?_⟩
              refine ob_q rfl rfl ⟨_, fun X Q h => o_loadEN (off := 0) (ys := xs) (v := el.id.val) rfl he rfl rfl (g_end (h _ _ ⟨rfl, rfl⟩)), ?_⟩
              refine ob_q rfl rfl ⟨_, fun X Q h => o_loadN (v := s.val) rfl rfl rfl (g_end (h _ _ ⟨rfl, rfl⟩)), ?_⟩
              refine ob_q rfl rfl ⟨_, fun X Q h => o_eqty rfl rfl (eq_sym el.id s) (g_end (h _ _ ⟨rfl, rfl⟩)), ?_⟩
              rw [hb]
              refine ob_q rfl rfl ⟨_, fun X Q h => o_move (g_end (h _ _ ⟨rfl, rfl⟩)), ?_⟩
              first | refine ob_q rfl rfl ⟨_, fun X Q h => o_want rfl rfl rfl rfl rfl <| o_field rfl (g_end (h _ _ ⟨rfl, rfl⟩)), ?_⟩ | refine ob_q rfl rfl ⟨_, fun X Q h => o_want rfl rfl rfl rfl rfl <| o_fieldR rfl (by omega) (g_end (h _ _ ⟨rfl, rfl⟩)), ?_⟩ | refine ob_q rfl rfl ⟨_, fun X Q h => o_unwanted rfl rfl rfl rfl rfl (g_end (h _ _ ⟨rfl, rfl⟩)), ?_⟩ | refine ob_q rfl rfl ⟨_, fun X Q h => o_undef rfl rfl rfl (g_end (h _ _ ⟨rfl, rfl⟩)), ?_⟩
              refine ob_q rfl rfl ⟨_, fun X Q h => o_want rfl rfl rfl rfl rfl <| o_load1 (v := .int .i64 el.value.kind) rfl rfl (g_end (h _ _ ⟨rfl, rfl⟩)), ?_⟩
              first | refine ob_q rfl rfl ⟨_, fun X Q h => o_want rfl rfl rfl rfl rfl <| o_eql rfl rfl (g_end (h _ _ ⟨rfl, rfl⟩)), ?_⟩ | refine ob_q rfl rfl ⟨_, fun X Q h => o_unwanted rfl rfl rfl rfl rfl (g_end (h _ _ ⟨rfl, rfl⟩)), ?_⟩ | refine ob_q rfl rfl ⟨_, fun X Q h => o_undef rfl rfl rfl (g_end (h _ _ ⟨rfl, rfl⟩)), ?_⟩
              rw [show (el.value.kind == 1) = false from by simpa using hk1]
              first | refine ob_q rfl rfl ⟨_, fun X Q h => o_pick_t rfl rfl (g_end (h _ _ ⟨rfl, rfl⟩)), ?_⟩ | refine ob_q rfl rfl ⟨_, fun X Q h => o_pick_f rfl rfl (g_end (h _ _ ⟨rfl, rfl⟩)), ?_⟩
              refine ob_q rfl rfl ⟨_, fun X Q h => o_move (g_end (h _ _ ⟨rfl, rfl⟩)), ?_⟩
              first | refine ob_q rfl rfl ⟨_, fun X Q h => o_want rfl rfl rfl rfl rfl <| o_move (g_end (h _ _ ⟨rfl, rfl⟩)), ?_⟩ | refine ob_q rfl rfl ⟨_, fun X Q h => o_unwanted rfl rfl rfl rfl rfl (g_end (h _ _ ⟨rfl, rfl⟩)), ?_⟩ | refine ob_q rfl rfl ⟨_, fun X Q h => o_undef rfl rfl rfl (g_end (h _ _ ⟨rfl, rfl⟩)), ?_⟩
              first | refine ob_q rfl rfl ⟨_, fun X Q h => o_want rfl rfl rfl rfl rfl <| o_loadN rfl rfl rfl (g_end (h _ _ ⟨rfl, rfl⟩)), ?_⟩ | refine ob_q rfl rfl ⟨_, fun X Q h => o_want rfl rfl rfl rfl rfl <| o_loadE rfl rfl (by assumption) (g_end (h _ _ ⟨rfl, rfl⟩)), ?_⟩ | refine ob_q rfl rfl ⟨_, fun X Q h => o_want rfl rfl rfl rfl rfl <| o_loadEN rfl (by assumption) rfl rfl (g_end (h _ _ ⟨rfl, rfl⟩)), ?_⟩ | refine ob_q rfl rfl ⟨_, fun X Q h => o_unwanted rfl rfl rfl rfl rfl (g_end (h _ _ ⟨rfl, rfl⟩)), ?_⟩ | refine ob_q rfl rfl ⟨_, fun X Q h => o_undef rfl rfl rfl (g_end (h _ _ ⟨rfl, rfl⟩)), ?_⟩
              first | refine ob_q rfl rfl ⟨_, fun X Q h => o_unwanted rfl rfl rfl rfl rfl (g_end (h _ _ ⟨rfl, rfl⟩)), ?_⟩ | refine ob_q rfl rfl ⟨_, fun X Q h => o_undef rfl rfl rfl (g_end (h _ _ ⟨rfl, rfl⟩)), ?_⟩
              first | refine ob_q rfl rfl ⟨_, fun X Q h => o_want rfl rfl rfl rfl rfl <| o_eql rfl rfl (g_end (h _ _ ⟨rfl, rfl⟩)), ?_⟩ | refine ob_q rfl rfl ⟨_, fun X Q h => o_unwanted rfl rfl rfl rfl rfl (g_end (h _ _ ⟨rfl, rfl⟩)), ?_⟩ | refine ob_q rfl rfl ⟨_, fun X Q h => o_undef rfl rfl rfl (g_end (h _ _ ⟨rfl, rfl⟩)), ?_⟩
              first | refine ob_q rfl rfl ⟨_, fun X Q h => o_pick_t rfl rfl (g_end (h _ _ ⟨rfl, rfl⟩)), ?_⟩ | refine ob_q rfl rfl ⟨_, fun X Q h => o_pick_f rfl rfl (g_end (h _ _ ⟨rfl, rfl⟩)), ?_⟩
              refine ob_nil ?_
              first | refine g_seq (g_cond_f rfl (by first | rfl | (simp; done) | (simp; omega) | (simp; assumption)) ?_) | refine g_cond_f rfl (by first | rfl | (simp; done) | (simp; omega) | (simp; assumption)) ?_
              repeat (first | refine g_endt ?_ | refine g_end ?_ | refine g_then ?_ | refine g_in_normal ?_ | refine g_then_ret ?_ | refine g_in_ret ?_ | refine g_then_exit ?_ | refine g_in_exit rfl ?_ | refine g_in_exit_ne (by decide) ?_ | refine g_seq ?_ | refine g_region ?_ | refine g_block ?_ | refine g_ret ?_ | refine g_return_n ?_ | refine g_exit ?_ | refine g_skip ?_)
              refine o_move ?_
              refine o_add (c := ((j + 1 : Nat) : Int)) rfl rfl (by omega) (by omega) (by omega) ?_
              refine o_assign ?_
              first | refine g_endt ?_ | refine g_end ?_
              repeat (first | refine g_endt ?_ | refine g_end ?_ | refine g_then ?_ | refine g_in_normal ?_ | refine g_then_ret ?_ | refine g_in_ret ?_ | refine g_then_exit ?_ | refine g_in_exit rfl ?_ | refine g_in_exit_ne (by decide) ?_ | refine g_seq ?_ | refine g_region ?_ | refine g_block ?_ | refine g_ret ?_ | refine g_return_n ?_ | refine g_exit ?_ | refine g_skip ?_)
              exact g_meets (⟨(j + 1, ((T, g), todo), (S, e), out, f), hjm, hR.next he fun _ h => absurd h hk1⟩) (by first | exact trivial | (dsimp only; omega)) (Sat.mem (by repeat (first | exact trivial | refine And.intro rfl ?_)))
        · first | refine g_seq (g_cond_f rfl (by simp; omega) ?_) | refine g_cond_f rfl (by simp; omega) ?_
          repeat (first | refine g_endt ?_ | refine g_end ?_ | refine g_then ?_ | refine g_in_normal ?_ | refine g_then_ret ?_ | refine g_in_ret ?_ | refine g_then_exit ?_ | refine g_in_exit rfl ?_ | refine g_in_exit_ne (by decide) ?_ | refine g_seq ?_ | refine g_region ?_ | refine g_block ?_ | refine g_ret ?_ | refine g_return_n ?_ | refine g_exit ?_ | refine g_skip ?_)
          exact g_meets ⟨(k - 1, ((T, g), todo), (S, e), out, f), by omega, hR.shut (by omega)⟩ (by show k - 1 < k; omega) (Sat.mem (by repeat (first | exact trivial | refine And.intro rfl ?_)))
    · have hfirst : ¬ firstF gs x = (i : Int) := fun h => hf (hfi.1 h)
      repeat (first | refine g_endt ?_ | refine g_end ?_ | refine g_then ?_ | refine g_in_normal ?_ | refine g_then_ret ?_ | refine g_in_ret ?_ | refine g_then_exit ?_ | refine g_in_exit rfl ?_ | refine g_in_exit_ne (by decide) ?_ | refine g_seq ?_ | refine g_region ?_ | refine g_block ?_ | refine g_ret ?_ | refine g_return_n ?_ | refine g_exit ?_ | refine g_skip ?_)
      refine g_loop (σ := Unit) (S := fun _ => [(0, .slice A n c), (1, .slice B m d), (5, .slice S out.length e), (7, .int .i64 (i : Int)), (8, .slice (some ⟨b, 0, none⟩) 1 1)]) (H := fun _ => [owL S e out, psl encS 3 A gs, psl encE 12 B xs]) (μ := fun _ => 0) (s0 := ()) (Sat.mem ⟨rfl, rfl, rfl, rfl, rfl, trivial⟩) ?_
      rintro _ ρ3
      repeat (first | refine g_endt ?_ | refine g_end ?_ | refine g_then ?_ | refine g_in_normal ?_ | refine g_then_ret ?_ | refine g_in_ret ?_ | refine g_then_exit ?_ | refine g_in_exit rfl ?_ | refine g_in_exit_ne (by decide) ?_ | refine g_seq ?_ | refine g_region ?_ | refine g_block ?_ | refine g_ret ?_ | refine g_return_n ?_ | refine g_exit ?_ | refine g_skip ?_)
      refine o_move ?_
      refine o_len rfl rfl ?_
      refine o_gtr rfl rfl ?_
      refine o_move ?_
      first | (refine o_want rfl rfl rfl rfl rfl ?_; refine o_move ?_) | refine o_unwanted rfl rfl rfl rfl rfl ?_ | refine o_undef rfl rfl rfl ?_
      first | (refine o_want rfl rfl rfl rfl rfl ?_; refine o_move ?_) | refine o_unwanted rfl rfl rfl rfl rfl ?_ | refine o_undef rfl rfl rfl ?_
      first | (refine o_want rfl rfl rfl rfl rfl ?_; refine o_move ?_) | refine o_unwanted rfl rfl rfl rfl rfl ?_ | refine o_undef rfl rfl rfl ?_
      refine o_want rfl rfl rfl rfl rfl (o_indexR (ys := gs) (i := i) rfl rfl rfl hi' hg rfl ?_)
      refine o_want rfl rfl rfl rfl rfl (o_loadE (ys := gs) rfl rfl hxi ?_)
      refine o_want rfl rfl rfl rfl rfl (o_callp (first10_spec A n c gs x hg (by omega)) rfl rfl ?_)
      rintro _ _ ⟨rfl, rfl⟩
      first | (refine o_want rfl rfl rfl rfl rfl ?_; refine o_move ?_) | refine o_unwanted rfl rfl rfl rfl rfl ?_ | refine o_undef rfl rfl rfl ?_
      first | (refine o_want rfl rfl rfl rfl rfl ?_; refine o_eql rfl rfl ?_) | refine o_unwanted rfl rfl rfl rfl rfl ?_ | refine o_undef rfl rfl rfl ?_
      first | refine o_pick_t rfl rfl ?_ | refine o_pick_f rfl rfl ?_
      first | refine g_endt ?_ | refine g_end ?_
      first | refine g_seq (g_cond_f rfl (by simpa using hfirst) ?_) | refine g_cond_f rfl (by simpa using hfirst) ?_
      repeat (first | refine g_endt ?_ | refine g_end ?_ | refine g_then ?_ | refine g_in_normal ?_ | refine g_then_ret ?_ | refine g_in_ret ?_ | refine g_then_exit ?_ | refine g_in_exit rfl ?_ | refine g_in_exit_ne (by decide) ?_ | refine g_seq ?_ | refine g_region ?_ | refine g_block ?_ | refine g_ret ?_ | refine g_return_n ?_ | refine g_exit ?_ | refine g_skip ?_)
      refine o_move ?_
      refine o_add (c := ((i + 1 : Nat) : Int)) rfl rfl (by omega) (by omega) (by omega) ?_
      refine o_assign ?_
      first | refine g_endt ?_ | refine g_end ?_
      repeat (first | refine g_endt ?_ | refine g_end ?_ | refine g_then ?_ | refine g_in_normal ?_ | refine g_then_ret ?_ | refine g_in_ret ?_ | refine g_then_exit ?_ | refine g_in_exit rfl ?_ | refine g_in_exit_ne (by decide) ?_ | refine g_seq ?_ | refine g_region ?_ | refine g_block ?_ | refine g_ret ?_ | refine g_return_n ?_ | refine g_exit ?_ | refine g_skip ?_)
      exact g_meets (⟨(i + 1, (S, e), out, f), h, hI.st.skip hxi hf, hI.tab⟩) (by first | exact trivial | (dsimp only; omega)) (Sat.mem (by repeat (first | exact trivial | refine And.intro rfl ?_)))
  · first | refine g_seq (g_cond_f rfl (by simp; omega) ?_) | refine g_cond_f rfl (by simp; omega) ?_
    have hin : i = gs.length := by have := hI.le; omega
    subst hin
    have he := hI.st.all
    have htab : TabL out (rlev gs xs) := ⟨hI.tab.nd, fun p hp => by rw [← he p.s]; exact hI.tab.own p hp, fun s => by rw [hI.tab.all s, he s]⟩
    refine G.freeze_slice ?_
    repeat (first | refine g_endt ?_ | refine g_end ?_ | refine g_then ?_ | refine g_in_normal ?_ | refine g_then_ret ?_ | refine g_in_ret ?_ | refine g_then_exit ?_ | refine g_in_exit rfl ?_ | refine g_in_exit_ne (by decide) ?_ | refine g_seq ?_ | refine g_region ?_ | refine g_block ?_ | refine g_ret ?_ | refine g_return_n ?_ | refine g_exit ?_ | refine g_skip ?_)
    refine o_move ?_
    refine o_assign ?_
    first | refine g_endt ?_ | refine g_end ?_
    repeat (first | refine g_endt ?_ | refine g_end ?_ | refine g_then ?_ | refine g_in_normal ?_ | refine g_then_ret ?_ | refine g_in_ret ?_ | refine g_then_exit ?_ | refine g_in_exit rfl ?_ | refine g_in_exit_ne (by decide) ?_ | refine g_seq ?_ | refine g_region ?_ | refine g_block ?_ | refine g_ret ?_ | refine g_return_n ?_ | refine g_exit ?_ | refine g_skip ?_)
    exact ret1 (K := [psl encL 4 S out]) rfl (resT rfl) ⟨S, e, out, rfl, htab, by omega, rfl⟩
end Go.Proofs.Ytonjhakjnopbjaa
/- The reference's elements whose Id has a level. -/
namespace Go.Proofs.Ytonjhakjnopbjaa
open Go Go.Sl
attribute [local irreducible] Code.wpIn roundPost bodyPostM runL Ret Meets MeetsD Begin

theorem lvF_take {gs : List SymD} {xs : List ElemD} {i : Nat} {x : ElemD} (hx : xs[i]? = some x) : lvF gs xs (xs.take (i + 1)) = lvF gs xs (xs.take i ++ [x]) := by
  rw [List.take_add_one, hx]; rfl
theorem lvF_len (gs : List SymD) (xs pre : List ElemD) : (lvF gs xs pre).length ≤ pre.length := List.length_filter_le _ _
set_option maxHeartbeats 1000000 in
theorem Live10_spec (A : Option Addr) (n c : Nat) (gs : List SymD) (hg : gs.length = n) (hn : n ≤ 10000) (B : Option Addr) (m d : Nat) (xs : List ElemD) (hx : xs.length = m) (hm : m ≤ 10000) :
    Ctr Try.prog 27 [.slice A n c, .slice B m d] [psl encS 3 A gs, psl encE 12 B xs] (fun v M => ∃ S e, v = .slice S (liveF gs xs).length e ∧ (liveF gs xs).length ≤ e ∧ M = [psl encE 12 S (liveF gs xs)]) := by
  refine spec_of Try.func27 rfl Try.ntmps27 rfl fun w0 F => ?_
  -- ponder/ponderref10.Live
  repeat (first | refine g_endt ?_ | refine g_end ?_ | refine g_then ?_ | refine g_in_normal ?_ | refine g_then_ret ?_ | refine g_in_ret ?_ | refine g_then_exit ?_ | refine g_in_exit rfl ?_ | refine g_in_exit_ne (by decide) ?_ | refine g_seq ?_ | refine g_region ?_ | refine g_block ?_ | refine g_ret ?_ | refine g_return_n ?_ | refine g_exit ?_ | refine g_skip ?_)
  refine o_assign ?_
  first | refine g_endt ?_ | refine g_end ?_
  repeat (first | refine g_endt ?_ | refine g_end ?_ | refine g_then ?_ | refine g_in_normal ?_ | refine g_then_ret ?_ | refine g_in_ret ?_ | refine g_then_exit ?_ | refine g_in_exit rfl ?_ | refine g_in_exit_ne (by decide) ?_ | refine g_seq ?_ | refine g_region ?_ | refine g_block ?_ | refine g_ret ?_ | refine g_return_n ?_ | refine g_exit ?_ | refine g_skip ?_)
  refine o_move ?_
  refine o_move ?_
  refine o_callp (Levels10_spec A n c gs hg (by omega) B m d xs hx (by omega)) rfl rfl ?_
  rintro _ _ ⟨U, u, out, rfl, htl, hol, rfl⟩
  refine o_assign ?_
  first | refine g_endt ?_ | refine g_end ?_
  repeat (first | refine g_endt ?_ | refine g_end ?_ | refine g_then ?_ | refine g_in_normal ?_ | refine g_then_ret ?_ | refine g_in_ret ?_ | refine g_then_exit ?_ | refine g_in_exit rfl ?_ | refine g_in_exit_ne (by decide) ?_ | refine g_seq ?_ | refine g_region ?_ | refine g_block ?_ | refine g_ret ?_ | refine g_return_n ?_ | refine g_exit ?_ | refine g_skip ?_)
  refine o_assign ?_
  first | refine g_endt ?_ | refine g_end ?_
  repeat (first | refine g_endt ?_ | refine g_end ?_ | refine g_then ?_ | refine g_in_normal ?_ | refine g_then_ret ?_ | refine g_in_ret ?_ | refine g_then_exit ?_ | refine g_in_exit rfl ?_ | refine g_in_exit_ne (by decide) ?_ | refine g_seq ?_ | refine g_region ?_ | refine g_block ?_ | refine g_ret ?_ | refine g_return_n ?_ | refine g_exit ?_ | refine g_skip ?_)
  refine o_assign ?_
  first | refine g_endt ?_ | refine g_end ?_
  refine G.nil_slice 33 encE 12 ?_
  repeat (first | refine g_endt ?_ | refine g_end ?_ | refine g_then ?_ | refine g_in_normal ?_ | refine g_then_ret ?_ | refine g_in_ret ?_ | refine g_then_exit ?_ | refine g_in_exit rfl ?_ | refine g_in_exit_ne (by decide) ?_ | refine g_seq ?_ | refine g_region ?_ | refine g_block ?_ | refine g_ret ?_ | refine g_return_n ?_ | refine g_exit ?_ | refine g_skip ?_)
  refine g_loop (σ := {t : Nat × Option Addr × Nat // t.1 ≤ m}) (S := fun t => [(1, .slice B m d), (5, .slice U out.length u), (6, .slice t.1.2.1 (lvF gs xs (xs.take t.1.1)).length t.1.2.2), (7, .int .i64 (t.1.1 : Int))])
    (H := fun t => [osl 33 encE 12 t.1.2.1 t.1.2.2 (lvF gs xs (xs.take t.1.1)), psl encE 12 B xs, psl encL 4 U out]) (μ := fun t => m - t.1.1) (s0 := ⟨(0, none, 0), Nat.zero_le _⟩) (Sat.mem ⟨rfl, rfl, rfl, rfl, trivial⟩)
    (t := (inferInstance : Take _ [osl 33 encE 12 none 0 [], psl encE 12 B xs, psl encL 4 U out] _)) ?_
  rintro ⟨⟨i, S, e⟩, hi⟩ ρ'
  dsimp only at hi ⊢
  have hul := lvF_len gs xs (xs.take i)
  have hti : (xs.take i).length ≤ i := by simp; omega
  repeat (first | refine g_endt ?_ | refine g_end ?_ | refine g_then ?_ | refine g_in_normal ?_ | refine g_then_ret ?_ | refine g_in_ret ?_ | refine g_then_exit ?_ | refine g_in_exit rfl ?_ | refine g_in_exit_ne (by decide) ?_ | refine g_seq ?_ | refine g_region ?_ | refine g_block ?_ | refine g_ret ?_ | refine g_return_n ?_ | refine g_exit ?_ | refine g_skip ?_)
  refine o_move ?_
  refine o_move ?_
  refine o_len rfl rfl ?_
  refine o_lss rfl rfl ?_
  first | refine g_endt ?_ | refine g_end ?_
  by_cases h : i < m
  · first | refine g_seq (g_cond_t rfl (by first | rfl | (simp; done) | (simp; omega) | (simp; assumption)) ?_) | refine g_cond_t rfl (by first | rfl | (simp; done) | (simp; omega) | (simp; assumption)) ?_
    have hi' : i < xs.length := by omega
    have hpos : 0 < xs.length := by omega
    obtain ⟨x, hxi⟩ : ∃ x, xs[i]? = some x := ⟨_, List.getElem?_eq_getElem hi'⟩
    have hofx := htl.all x.id
    have hrg := lev_range gs xs x.id
    repeat (first | refine g_endt ?_ | refine g_end ?_ | refine g_then ?_ | refine g_in_normal ?_ | refine g_then_ret ?_ | refine g_in_ret ?_ | refine g_then_exit ?_ | refine g_in_exit rfl ?_ | refine g_in_exit_ne (by decide) ?_ | refine g_seq ?_ | refine g_region ?_ | refine g_block ?_ | refine g_ret ?_ | refine g_return_n ?_ | refine g_exit ?_ | refine g_skip ?_)
    refine o_move ?_
    refine o_move ?_
    refine o_move ?_
    refine o_indexR (ys := xs) (i := i) rfl rfl rfl hi' hx rfl ?_
    refine o_fieldR (ys := xs) rfl hpos ?_
    refine o_loadEN (off := 0) (ys := xs) (v := x.id.val) rfl hxi rfl rfl ?_
    refine o_callp (Of10_spec (psl encL 4 U out) U out.length u out x.id rfl (by omega)) rfl rfl ?_
    rintro _ _ ⟨rfl, rfl⟩
    refine o_gtr rfl rfl ?_
    first | refine g_endt ?_ | refine g_end ?_
    by_cases hf : rlev gs xs x.id = 0
    · first | refine g_seq (g_cond_f rfl (by rw [hofx, hf]; rfl) ?_) | refine g_cond_f rfl (by rw [hofx, hf]; rfl) ?_
      have e1 : lvF gs xs (xs.take (i + 1)) = lvF gs xs (xs.take i) := by rw [lvF_take hxi, lvF_no hf]
      rw [← e1]
      repeat (first | refine g_endt ?_ | refine g_end ?_ | refine g_then ?_ | refine g_in_normal ?_ | refine g_then_ret ?_ | refine g_in_ret ?_ | refine g_then_exit ?_ | refine g_in_exit rfl ?_ | refine g_in_exit_ne (by decide) ?_ | refine g_seq ?_ | refine g_region ?_ | refine g_block ?_ | refine g_ret ?_ | refine g_return_n ?_ | refine g_exit ?_ | refine g_skip ?_)
      refine o_move ?_
      refine o_add (c := ((i + 1 : Nat) : Int)) rfl rfl (by omega) (by omega) (by omega) ?_
      refine o_assign ?_
      first | refine g_endt ?_ | refine g_end ?_
      repeat (first | refine g_endt ?_ | refine g_end ?_ | refine g_then ?_ | refine g_in_normal ?_ | refine g_then_ret ?_ | refine g_in_ret ?_ | refine g_then_exit ?_ | refine g_in_exit rfl ?_ | refine g_in_exit_ne (by decide) ?_ | refine g_seq ?_ | refine g_region ?_ | refine g_block ?_ | refine g_ret ?_ | refine g_return_n ?_ | refine g_exit ?_ | refine g_skip ?_)
      exact g_meets (⟨(i + 1, S, e), h⟩) (by first | exact trivial | (dsimp only; omega)) (Sat.mem (by repeat (first | exact trivial | refine And.intro rfl ?_)))
    · first | refine g_seq (g_cond_t rfl (by rw [hofx]; simp; omega) ?_) | refine g_cond_t rfl (by rw [hofx]; simp; omega) ?_
      have e1 : lvF gs xs (xs.take (i + 1)) = lvF gs xs (xs.take i) ++ [x] := by rw [lvF_take hxi, lvF_yes hf]
      generalize hus : lvF gs xs (xs.take i) = us at e1 hul ⊢
      repeat (first | refine g_endt ?_ | refine g_end ?_ | refine g_then ?_ | refine g_in_normal ?_ | refine g_then_ret ?_ | refine g_in_ret ?_ | refine g_then_exit ?_ | refine g_in_exit rfl ?_ | refine g_in_exit_ne (by decide) ?_ | refine g_seq ?_ | refine g_region ?_ | refine g_block ?_ | refine g_ret ?_ | refine g_return_n ?_ | refine g_exit ?_ | refine g_skip ?_)
      refine o_move ?_
      refine o_move ?_
      refine o_move ?_
      refine o_indexR (ys := xs) (i := i) rfl rfl rfl hi' hx rfl ?_
      refine o_loadE (ys := xs) rfl rfl hxi ?_
      refine o_litP (e := 33) encE [x] (x).val.cells (fun w => by kernel_rfl) (by simp [encE]) (by simp [maxLen]) fun _ => ?_
      refine o_append (xs := us) (ys := [x]) (by first | rfl | (simp only [List.length_map, List.length_take, List.length_append]; first | rfl | (congr 1; omega))) rfl rfl rfl rfl (fun _ => .inr trivial) (by simp [maxLen]; omega) (by simp; omega) fun S2 e2 => ?_
      refine o_assign ?_
      first | refine g_endt ?_ | refine g_end ?_
      rw [← e1]
      repeat (first | refine g_endt ?_ | refine g_end ?_ | refine g_then ?_ | refine g_in_normal ?_ | refine g_then_ret ?_ | refine g_in_ret ?_ | refine g_then_exit ?_ | refine g_in_exit rfl ?_ | refine g_in_exit_ne (by decide) ?_ | refine g_seq ?_ | refine g_region ?_ | refine g_block ?_ | refine g_ret ?_ | refine g_return_n ?_ | refine g_exit ?_ | refine g_skip ?_)
      refine o_move ?_
      refine o_add (c := ((i + 1 : Nat) : Int)) rfl rfl (by omega) (by omega) (by omega) ?_
      refine o_assign ?_
      first | refine g_endt ?_ | refine g_end ?_
      repeat (first | refine g_endt ?_ | refine g_end ?_ | refine g_then ?_ | refine g_in_normal ?_ | refine g_then_ret ?_ | refine g_in_ret ?_ | refine g_then_exit ?_ | refine g_in_exit rfl ?_ | refine g_in_exit_ne (by decide) ?_ | refine g_seq ?_ | refine g_region ?_ | refine g_block ?_ | refine g_ret ?_ | refine g_return_n ?_ | refine g_exit ?_ | refine g_skip ?_)
      exact g_meets ⟨(i + 1, S2, e2), h⟩ (by show m - (i + 1) < m - i; omega) (Sat.mem ⟨rfl, rfl, (show Value.slice S2 (us.length + 1) e2 = Value.slice S2 (lvF gs xs (xs.take (i + 1))).length e2 by rw [e1, List.length_append]; rfl), rfl, trivial⟩)
  · first | refine g_seq (g_cond_f rfl (by simp; omega) ?_) | refine g_cond_f rfl (by simp; omega) ?_
    rw [show xs.take i = xs from List.take_of_length_le (by omega)]
    refine G.bring [osl 33 encE 12 S e (lvF gs xs xs)] ?_
    refine G.frzc fun hroom => ?_
    repeat (first | refine g_endt ?_ | refine g_end ?_ | refine g_then ?_ | refine g_in_normal ?_ | refine g_then_ret ?_ | refine g_in_ret ?_ | refine g_then_exit ?_ | refine g_in_exit rfl ?_ | refine g_in_exit_ne (by decide) ?_ | refine g_seq ?_ | refine g_region ?_ | refine g_block ?_ | refine g_ret ?_ | refine g_return_n ?_ | refine g_exit ?_ | refine g_skip ?_)
    refine o_move ?_
    refine o_assign ?_
    first | refine g_endt ?_ | refine g_end ?_
    repeat (first | refine g_endt ?_ | refine g_end ?_ | refine g_then ?_ | refine g_in_normal ?_ | refine g_then_ret ?_ | refine g_in_ret ?_ | refine g_then_exit ?_ | refine g_in_exit rfl ?_ | refine g_in_exit_ne (by decide) ?_ | refine g_seq ?_ | refine g_region ?_ | refine g_block ?_ | refine g_ret ?_ | refine g_return_n ?_ | refine g_exit ?_ | refine g_skip ?_)
    exact ret1 (K := [psl encE 12 S (lvF gs xs xs)]) rfl (resT rfl) ⟨S, e, rfl, hroom, rfl⟩
end Go.Proofs.Ytonjhakjnopbjaa
