/- The law on values of another type, walked. -/
import Derived.Test.YtlognaddmbolgaaK1
namespace Go.Proofs.Ytlognaddmbolgaa
open Go Go.Sl
attribute [local irreducible] Code.wpIn roundPost bodyPostM runL Ret Meets Begin

theorem BookLists_spec (A : Option Addr) (la ca : Nat) (rs : List RowD) (hl : rs.length = la) (hm : la ≤ 9223372036854775807) (hrow : ∀ r ∈ rs, r.zs.length = r.len ∧ r.len ≤ 9223372036854775807) :
    Ctr Try.prog 3 [.slice A la ca] [psl encR 1 A rs, prows rs] (fun v M => v = .bool true ∧ M = []) := by
  refine spec_of Try.func3 rfl Try.ntmps3 rfl fun w0 F => ?_
  repeat (first | refine g_endt ?_ | refine g_end ?_ | refine g_then ?_ | refine g_in_normal ?_ | refine g_then_ret ?_ | refine g_in_ret ?_ | refine g_then_exit ?_ | refine g_in_exit rfl ?_ | refine g_in_exit_ne (by decide) ?_ | refine g_seq ?_ | refine g_region ?_ | refine g_block ?_ | refine g_ret ?_ | refine g_return_n ?_ | refine g_exit ?_ | refine g_skip ?_)
  refine o_boxc #[.slice A la ca] rfl rfl fun b => ?_
  refine o_alloc fun r => ?_
  refine g_endt ?_
  change G _ _ [cellsB r #[.bool false] 4, cellsB b #[.slice A la ca] 22, psl encR 1 A rs, prows rs] _
  repeat (first | refine g_endt ?_ | refine g_end ?_ | refine g_then ?_ | refine g_in_normal ?_ | refine g_then_ret ?_ | refine g_in_ret ?_ | refine g_then_exit ?_ | refine g_in_exit rfl ?_ | refine g_in_exit_ne (by decide) ?_ | refine g_seq ?_ | refine g_region ?_ | refine g_block ?_ | refine g_ret ?_ | refine g_return_n ?_ | refine g_exit ?_ | refine g_skip ?_)
  refine o_load1 (v := .slice A la ca) rfl rfl ?_
  refine o_len rfl rfl ?_
  refine o_gtr rfl rfl ?_
  refine g_endt ?_
  by_cases h40 : 40 < la
  · first | refine g_seq (g_cond_t rfl (by simp; omega) ?_) | refine g_cond_t rfl (by simp; omega) ?_
    repeat (first | refine g_endt ?_ | refine g_end ?_ | refine g_then ?_ | refine g_in_normal ?_ | refine g_then_ret ?_ | refine g_in_ret ?_ | refine g_then_exit ?_ | refine g_in_exit rfl ?_ | refine g_in_exit_ne (by decide) ?_ | refine g_seq ?_ | refine g_region ?_ | refine g_block ?_ | refine g_ret ?_ | refine g_return_n ?_ | refine g_exit ?_ | refine g_skip ?_)
    refine o_call wakes02_spec rfl rfl ?_
    rintro _ _ ⟨rfl, rfl⟩
    refine o_store (v := .bool true) rfl rfl rfl rfl rfl ?_
    refine g_endt ?_
    refine G.norm r #[.bool true] rfl ?_
    repeat (first | refine g_endt ?_ | refine g_end ?_ | refine g_then ?_ | refine g_in_normal ?_ | refine g_then_ret ?_ | refine g_in_ret ?_ | refine g_then_exit ?_ | refine g_in_exit rfl ?_ | refine g_in_exit_ne (by decide) ?_ | refine g_seq ?_ | refine g_region ?_ | refine g_block ?_ | refine g_ret ?_ | refine g_return_n ?_ | refine g_exit ?_ | refine g_skip ?_)
    exact ret1 (K := []) rfl (resC1 (v := .bool true) rfl rfl) ⟨rfl, rfl⟩
  first | refine g_seq (g_cond_f rfl (by simp; omega) ?_) | refine g_cond_f rfl (by simp; omega) ?_
  repeat (first | refine g_endt ?_ | refine g_end ?_ | refine g_then ?_ | refine g_in_normal ?_ | refine g_then_ret ?_ | refine g_in_ret ?_ | refine g_then_exit ?_ | refine g_in_exit rfl ?_ | refine g_in_exit_ne (by decide) ?_ | refine g_seq ?_ | refine g_region ?_ | refine g_block ?_ | refine g_ret ?_ | refine g_return_n ?_ | refine g_exit ?_ | refine g_skip ?_)
  refine o_call NewMSL_spec rfl rfl ?_
  rintro _ _ ⟨m, rfl, rfl⟩
  refine o_assign ?_
  refine g_endt ?_
  repeat (first | refine g_endt ?_ | refine g_end ?_ | refine g_then ?_ | refine g_in_normal ?_ | refine g_then_ret ?_ | refine g_in_ret ?_ | refine g_then_exit ?_ | refine g_in_exit rfl ?_ | refine g_in_exit_ne (by decide) ?_ | refine g_seq ?_ | refine g_region ?_ | refine g_block ?_ | refine g_ret ?_ | refine g_return_n ?_ | refine g_exit ?_ | refine g_skip ?_)
  refine o_move ?_
  refine o_peql rfl ?_
  refine g_endt ?_
  first | refine g_seq (g_cond_f rfl (rfl) ?_) | refine g_cond_f rfl (rfl) ?_
  repeat (first | refine g_endt ?_ | refine g_end ?_ | refine g_then ?_ | refine g_in_normal ?_ | refine g_then_ret ?_ | refine g_in_ret ?_ | refine g_then_exit ?_ | refine g_in_exit rfl ?_ | refine g_in_exit_ne (by decide) ?_ | refine g_seq ?_ | refine g_region ?_ | refine g_block ?_ | refine g_ret ?_ | refine g_return_n ?_ | refine g_exit ?_ | refine g_skip ?_)
  refine o_assign ?_
  refine g_endt ?_
  repeat (first | refine g_endt ?_ | refine g_end ?_ | refine g_then ?_ | refine g_in_normal ?_ | refine g_then_ret ?_ | refine g_in_ret ?_ | refine g_then_exit ?_ | refine g_in_exit rfl ?_ | refine g_in_exit_ne (by decide) ?_ | refine g_seq ?_ | refine g_region ?_ | refine g_block ?_ | refine g_ret ?_ | refine g_return_n ?_ | refine g_exit ?_ | refine g_skip ?_)
  change G _ _ [MapASL m (pgs (rs.take 0)), cellsB r #[.bool false] 4, cellsB b #[.slice A la ca] 22, psl encR 1 A rs, prows rs] _
  refine g_loop (σ := {i : Nat // i ≤ la}) (S := fun i => [(1, .pointer (some ⟨b, 0, none⟩)), (2, .pointer (some ⟨r, 0, none⟩)), (3, .pointer (some ⟨m, 0, none⟩)), (4, .int .i64 (i.1 : Int))])
    (H := fun i => [MapASL m (pgs (rs.take i.1)), cellsB r #[.bool false] 4, cellsB b #[.slice A la ca] 22, psl encR 1 A rs, prows rs]) (μ := fun i => la - i.1)
    (s0 := ⟨0, Nat.zero_le _⟩) (Sat.mem ⟨rfl, rfl, rfl, rfl, trivial⟩) ?_
  rintro ⟨i, hi⟩ ρ'
  dsimp only at hi ⊢
  repeat (first | refine g_endt ?_ | refine g_end ?_ | refine g_then ?_ | refine g_in_normal ?_ | refine g_then_ret ?_ | refine g_in_ret ?_ | refine g_then_exit ?_ | refine g_in_exit rfl ?_ | refine g_in_exit_ne (by decide) ?_ | refine g_seq ?_ | refine g_region ?_ | refine g_block ?_ | refine g_ret ?_ | refine g_return_n ?_ | refine g_exit ?_ | refine g_skip ?_)
  refine o_move ?_
  refine o_load1 (v := .slice A la ca) rfl rfl ?_
  refine o_len rfl rfl ?_
  refine o_lss rfl rfl ?_
  refine g_endt ?_
  by_cases h : i < la
  · first | refine g_seq (g_cond_t rfl (by simp; omega) ?_) | refine g_cond_t rfl (by simp; omega) ?_
    have hi' : i < rs.length := by omega
    obtain ⟨q, hq⟩ : ∃ q, rs[i]? = some q := ⟨_, List.getElem?_eq_getElem hi'⟩
    repeat (first | refine g_endt ?_ | refine g_end ?_ | refine g_then ?_ | refine g_in_normal ?_ | refine g_then_ret ?_ | refine g_in_ret ?_ | refine g_then_exit ?_ | refine g_in_exit rfl ?_ | refine g_in_exit_ne (by decide) ?_ | refine g_seq ?_ | refine g_region ?_ | refine g_block ?_ | refine g_ret ?_ | refine g_return_n ?_ | refine g_exit ?_ | refine g_skip ?_)
    refine o_load1 (v := .slice A la ca) rfl rfl ?_
    refine o_move ?_
    refine o_indexR (ys := rs) (i := i) rfl rfl rfl hi' hl rfl ?_
    refine o_loadE0 (ys := rs) (v := .slice q.a q.len q.cap) rfl hq rfl ?_
    refine o_len rfl rfl ?_
    refine o_gtr rfl rfl ?_
    by_cases h50 : 50 < q.len
    · rw [show decide ((q.len : Int) > 50) = true from decide_eq_true (by omega)]
      refine o_move ?_
      refine o_unwanted rfl rfl rfl rfl rfl ?_
      refine o_unwanted rfl rfl rfl rfl rfl ?_
      refine o_unwanted rfl rfl rfl rfl rfl ?_
      refine o_unwanted rfl rfl rfl rfl rfl ?_
      refine o_unwanted rfl rfl rfl rfl rfl ?_
      refine o_unwanted rfl rfl rfl rfl rfl ?_
      refine o_unwanted rfl rfl rfl rfl rfl ?_
      refine o_unwanted rfl rfl rfl rfl rfl ?_
      refine o_unwanted rfl rfl rfl rfl rfl ?_
      refine o_pick_t rfl rfl ?_
      refine g_endt ?_
      first | refine g_seq (g_cond_t rfl (rfl) ?_) | refine g_cond_t rfl (rfl) ?_
      repeat (first | refine g_endt ?_ | refine g_end ?_ | refine g_then ?_ | refine g_in_normal ?_ | refine g_then_ret ?_ | refine g_in_ret ?_ | refine g_then_exit ?_ | refine g_in_exit rfl ?_ | refine g_in_exit_ne (by decide) ?_ | refine g_seq ?_ | refine g_region ?_ | refine g_block ?_ | refine g_ret ?_ | refine g_return_n ?_ | refine g_exit ?_ | refine g_skip ?_)
      refine o_load1 (v := .slice A la ca) rfl rfl ?_
      refine o_move ?_
      refine o_indexR (ys := rs) (i := i) rfl rfl rfl hi' hl rfl ?_
      refine o_loadE0 (ys := rs) (v := .slice q.a q.len q.cap) rfl hq rfl ?_
      refine o_len rfl rfl ?_
      refine o_gtr rfl rfl ?_
      rw [show decide ((q.len : Int) > 50) = true from decide_eq_true (by omega)]
      refine o_store (v := .bool true) rfl rfl rfl rfl rfl ?_
      refine g_endt ?_
      refine G.norm r #[.bool true] rfl ?_
      repeat (first | refine g_endt ?_ | refine g_end ?_ | refine g_then ?_ | refine g_in_normal ?_ | refine g_then_ret ?_ | refine g_in_ret ?_ | refine g_then_exit ?_ | refine g_in_exit rfl ?_ | refine g_in_exit_ne (by decide) ?_ | refine g_seq ?_ | refine g_region ?_ | refine g_block ?_ | refine g_ret ?_ | refine g_return_n ?_ | refine g_exit ?_ | refine g_skip ?_)
      exact ret1 (K := []) rfl (resC1 (v := .bool true) rfl rfl) ⟨rfl, rfl⟩
    · rw [show decide ((q.len : Int) > 50) = false from decide_eq_false (by omega)]
      refine o_move ?_
      refine o_want rfl rfl rfl rfl rfl (o_move ?_)
      refine o_want rfl rfl rfl rfl rfl (o_move ?_)
      refine o_want rfl rfl rfl rfl rfl (o_build (keyI i).val (fun w => by kernel_rfl) ?_)
      refine o_want rfl rfl rfl rfl rfl (o_load1 (v := .slice A la ca) rfl rfl ?_)
      refine o_want rfl rfl rfl rfl rfl (o_move ?_)
      refine o_want rfl rfl rfl rfl rfl (o_indexR (ys := rs) (i := i) rfl rfl rfl hi' hl rfl ?_)
      refine o_want rfl rfl rfl rfl rfl (o_loadE0 (ys := rs) (v := .slice q.a q.len q.cap) rfl hq rfl ?_)
      refine o_want rfl rfl rfl rfl rfl (o_call (PutMSL_spec m (pgs (rs.take i)) (keyI i) ⟨q.a, q.len, q.cap⟩ (pgs_srt _) (by rw [pgs_len]; simp; omega)) rfl rfl ?_)
      rintro _ M1 ⟨k, there, rfl, hM, hk⟩
      obtain ⟨rfl, hp⟩ := pgs_put rs i q hq hk
      rw [hp] at hM
      subst hM
      refine o_want rfl rfl rfl rfl rfl (o_not rfl ?_)
      refine o_pick_f rfl rfl ?_
      refine g_endt ?_
      first | refine g_seq (g_cond_f rfl (rfl) ?_) | refine g_cond_f rfl (rfl) ?_
      repeat (first | refine g_endt ?_ | refine g_end ?_ | refine g_then ?_ | refine g_in_normal ?_ | refine g_then_ret ?_ | refine g_in_ret ?_ | refine g_then_exit ?_ | refine g_in_exit rfl ?_ | refine g_in_exit_ne (by decide) ?_ | refine g_seq ?_ | refine g_region ?_ | refine g_block ?_ | refine g_ret ?_ | refine g_return_n ?_ | refine g_exit ?_ | refine g_skip ?_)
      refine o_move ?_
      refine o_add (c := ((i + 1 : Nat) : Int)) rfl rfl (by omega) (by omega) (by omega) ?_
      refine o_assign ?_
      refine g_endt ?_
      repeat (first | refine g_endt ?_ | refine g_end ?_ | refine g_then ?_ | refine g_in_normal ?_ | refine g_then_ret ?_ | refine g_in_ret ?_ | refine g_then_exit ?_ | refine g_in_exit rfl ?_ | refine g_in_exit_ne (by decide) ?_ | refine g_seq ?_ | refine g_region ?_ | refine g_block ?_ | refine g_ret ?_ | refine g_return_n ?_ | refine g_exit ?_ | refine g_skip ?_)
      exact g_meets ⟨i + 1, h⟩ (by show la - (i + 1) < la - i; omega) (Sat.mem ⟨rfl, rfl, rfl, rfl, trivial⟩)
  · first | refine g_seq (g_cond_f rfl (by simp; omega) ?_) | refine g_cond_f rfl (by simp; omega) ?_
    have e : rs.take i = rs := List.take_of_length_le (by omega)
    rw [e]
    repeat (first | refine g_endt ?_ | refine g_end ?_ | refine g_then ?_ | refine g_in_normal ?_ | refine g_then_ret ?_ | refine g_in_ret ?_ | refine g_then_exit ?_ | refine g_in_exit rfl ?_ | refine g_in_exit_ne (by decide) ?_ | refine g_seq ?_ | refine g_region ?_ | refine g_block ?_ | refine g_ret ?_ | refine g_return_n ?_ | refine g_exit ?_ | refine g_skip ?_)
    refine o_alloc fun c => ?_
    refine o_store (v := .int .i64 0) rfl rfl rfl rfl rfl ?_
    refine g_endt ?_
    refine G.norm c #[.int .i64 0] rfl ?_
    repeat (first | refine g_endt ?_ | refine g_end ?_ | refine g_then ?_ | refine g_in_normal ?_ | refine g_then_ret ?_ | refine g_in_ret ?_ | refine g_then_exit ?_ | refine g_in_exit rfl ?_ | refine g_in_exit_ne (by decide) ?_ | refine g_seq ?_ | refine g_region ?_ | refine g_block ?_ | refine g_ret ?_ | refine g_return_n ?_ | refine g_exit ?_ | refine g_skip ?_)
    refine o_move ?_
    refine o_call (AllMSL_spec m) rfl rfl ?_
    rintro _ _ ⟨b2, rfl, rfl⟩
    refine o_assign ?_
    refine g_endt ?_
    repeat (first | refine g_endt ?_ | refine g_end ?_ | refine g_then ?_ | refine g_in_normal ?_ | refine g_then_ret ?_ | refine g_in_ret ?_ | refine g_then_exit ?_ | refine g_in_exit rfl ?_ | refine g_in_exit_ne (by decide) ?_ | refine g_seq ?_ | refine g_region ?_ | refine g_block ?_ | refine g_ret ?_ | refine g_return_n ?_ | refine g_exit ?_ | refine g_skip ?_)
    refine o_move ?_
    refine o_fnil rfl (fun w => by kernel_rfl) (fun w => by kernel_rfl) ?_
    refine g_endt ?_
    first | refine g_seq (g_cond_f rfl (rfl) ?_) | refine g_cond_f rfl (rfl) ?_
    repeat (first | refine g_endt ?_ | refine g_end ?_ | refine g_then ?_ | refine g_in_normal ?_ | refine g_then_ret ?_ | refine g_in_ret ?_ | refine g_then_exit ?_ | refine g_in_exit rfl ?_ | refine g_in_exit_ne (by decide) ?_ | refine g_seq ?_ | refine g_region ?_ | refine g_block ?_ | refine g_ret ?_ | refine g_return_n ?_ | refine g_exit ?_ | refine g_skip ?_)
    refine o_move ?_
    refine g_endt ?_
    repeat (first | refine g_endt ?_ | refine g_end ?_ | refine g_then ?_ | refine g_in_normal ?_ | refine g_then_ret ?_ | refine g_in_ret ?_ | refine g_then_exit ?_ | refine g_in_exit rfl ?_ | refine g_in_exit_ne (by decide) ?_ | refine g_seq ?_ | refine g_region ?_ | refine g_block ?_ | refine g_ret ?_ | refine g_return_n ?_ | refine g_exit ?_ | refine g_skip ?_)
    refine g_range (ps := [50, 51]) (lb := [.pointer (some ⟨b2, 0, none⟩)]) (enc := PgSL.enc2) (xs := pgs rs) rfl
      (fun pre => [cellsB c #[.int .i64 (pre.length : Int)] 3, pblk b2 (.cells #[.pointer (some ⟨m, 0, none⟩)] 24 (0, 0)), MapASL m (pgs rs), cellsB r #[.bool false] 4, cellsB b #[.slice A la ca] 22, psl encR 1 A rs, prows rs])
      (fun _ _ => [pu False])
      (fun K => AllM1SL_iter m b2 (pgs rs) (by rw [pgs_len]; omega) _) (fun _ => rfl) (tk := (inferInstance : Take _ [cellsB c #[.int .i64 (0 : Int)] 3, pblk b2 (.cells #[.pointer (some ⟨m, 0, none⟩)] 24 (0, 0)), MapASL m (pgs rs), cellsB r #[.bool false] 4, cellsB b #[.slice A la ca] 22, psl encR 1 A rs, prows rs] _)) ?_ ?_ ?_
    · intro w0 F l' r' pre x hp
      have hx : (pgs rs)[pre.length]? = some x := by
        obtain ⟨t, ht⟩ := hp
        rw [← ht]
        simp
      have hn : pre.length < la := by
        have := (List.getElem?_eq_some_iff.1 hx).1
        rw [pgs_len] at this; omega
      obtain ⟨q, hq⟩ : ∃ q, rs[pre.length]? = some q := ⟨_, List.getElem?_eq_getElem (by omega)⟩
      have hxe : x = ⟨keyI pre.length, ⟨q.a, q.len, q.cap⟩⟩ := by
        rw [pgs_get, hq] at hx
        cases hx; rfl
      subst hxe
      have hqm : q ∈ rs := List.mem_of_getElem? hq
      obtain ⟨hq1, hq2⟩ := hrow q hqm
      generalize hN : pre.length = N at *
      repeat (first | refine g_endt ?_ | refine g_end ?_ | refine g_then ?_ | refine g_in_normal ?_ | refine g_then_ret ?_ | refine g_in_ret ?_ | refine g_then_exit ?_ | refine g_in_exit rfl ?_ | refine g_in_exit_ne (by decide) ?_ | refine g_seq ?_ | refine g_region ?_ | refine g_block ?_ | refine g_ret ?_ | refine g_return_n ?_ | refine g_exit ?_ | refine g_skip ?_)
      refine o_alloc fun d => ?_
      refine o_store (v := (keyI N).val) rfl rfl rfl rfl rfl ?_
      refine g_endt ?_
      refine G.norm d (keyI N).val.cells rfl ?_
      repeat (first | refine g_endt ?_ | refine g_end ?_ | refine g_then ?_ | refine g_in_normal ?_ | refine g_then_ret ?_ | refine g_in_ret ?_ | refine g_then_exit ?_ | refine g_in_exit rfl ?_ | refine g_in_exit_ne (by decide) ?_ | refine g_seq ?_ | refine g_region ?_ | refine g_block ?_ | refine g_ret ?_ | refine g_return_n ?_ | refine g_exit ?_ | refine g_skip ?_)
      refine o_assign ?_
      refine g_endt ?_
      repeat (first | refine g_endt ?_ | refine g_end ?_ | refine g_then ?_ | refine g_in_normal ?_ | refine g_then_ret ?_ | refine g_in_ret ?_ | refine g_then_exit ?_ | refine g_in_exit rfl ?_ | refine g_in_exit_ne (by decide) ?_ | refine g_seq ?_ | refine g_region ?_ | refine g_block ?_ | refine g_ret ?_ | refine g_return_n ?_ | refine g_exit ?_ | refine g_skip ?_)
      refine g_begin ?_
      repeat (first | refine g_endt ?_ | refine g_end ?_ | refine g_then ?_ | refine g_in_normal ?_ | refine g_then_ret ?_ | refine g_in_ret ?_ | refine g_then_exit ?_ | refine g_in_exit rfl ?_ | refine g_in_exit_ne (by decide) ?_ | refine g_seq ?_ | refine g_region ?_ | refine g_block ?_ | refine g_ret ?_ | refine g_return_n ?_ | refine g_exit ?_ | refine g_skip ?_)
      refine G.row hqm ?_
      refine o_load1 (v := .int .i64 (N : Int)) rfl rfl ?_
      refine o_load1 (v := .slice A la ca) rfl rfl ?_
      refine o_len rfl rfl ?_
      refine o_geq rfl rfl ?_
      rw [show decide ((N : Int) ≥ (la : Int)) = false from decide_eq_false (by omega)]
      refine o_move ?_
      refine o_want rfl rfl rfl rfl rfl (o_field rfl ?_)
      refine o_want rfl rfl rfl rfl rfl (o_load1 (v := .int .i64 (N : Int)) rfl rfl ?_)
      refine o_want rfl rfl rfl rfl rfl (o_load1 (v := .int .i64 (N : Int)) rfl rfl ?_)
      refine o_want rfl rfl rfl rfl rfl (o_neq rfl rfl ?_)
      rw [show ((N : Int) != (N : Int)) = false by simp]
      refine o_pick_f rfl rfl ?_
      refine o_move ?_
      refine o_want rfl rfl rfl rfl rfl (o_move ?_)
      refine o_want rfl rfl rfl rfl rfl (o_load1 (v := .slice A la ca) rfl rfl ?_)
      refine o_want rfl rfl rfl rfl rfl (o_load1 (v := .int .i64 (N : Int)) rfl rfl ?_)
      refine o_want rfl rfl rfl rfl rfl (o_indexR (ys := rs) (i := N) rfl rfl rfl (by omega) hl rfl ?_)
      refine o_want rfl rfl rfl rfl rfl (o_loadE0 (ys := rs) (v := .slice q.a q.len q.cap) rfl hq rfl ?_)
      refine o_want rfl rfl rfl rfl rfl (o_callp (Ints_spec q.a q.a q.len q.cap q.cap q.zs hq1 hq2) rfl rfl ?_)
      rintro _ _ ⟨rfl, rfl⟩
      refine o_want rfl rfl rfl rfl rfl (o_not rfl ?_)
      refine o_pick_f rfl rfl ?_
      refine g_endt ?_
      first | refine g_seq (g_cond_f rfl (rfl) ?_) | refine g_cond_f rfl (rfl) ?_
      repeat (first | refine g_endt ?_ | refine g_end ?_ | refine g_then ?_ | refine g_in_normal ?_ | refine g_then_ret ?_ | refine g_in_ret ?_ | refine g_then_exit ?_ | refine g_in_exit rfl ?_ | refine g_in_exit_ne (by decide) ?_ | refine g_seq ?_ | refine g_region ?_ | refine g_block ?_ | refine g_ret ?_ | refine g_return_n ?_ | refine g_exit ?_ | refine g_skip ?_)
      refine o_load1 (v := .int .i64 (N : Int)) rfl rfl ?_
      refine o_add (c := ((N + 1 : Nat) : Int)) rfl rfl (by omega) (by omega) (by omega) ?_
      refine o_store (v := .int .i64 ((N + 1 : Nat) : Int)) rfl rfl rfl rfl rfl ?_
      refine g_end ?_
      refine G.norm c #[.int .i64 ((N + 1 : Nat) : Int)] rfl ?_
      repeat (first | refine g_endt ?_ | refine g_end ?_ | refine g_then ?_ | refine g_in_normal ?_ | refine g_then_ret ?_ | refine g_in_ret ?_ | refine g_then_exit ?_ | refine g_in_exit rfl ?_ | refine g_in_exit_ne (by decide) ?_ | refine g_seq ?_ | refine g_region ?_ | refine g_block ?_ | refine g_ret ?_ | refine g_return_n ?_ | refine g_exit ?_ | refine g_skip ?_)
      exact g_next (tk := by simp only [List.length_append, List.length_cons, List.length_nil, hN, Nat.zero_add]; infer_instance)
    · intro D
      simp only [pgs_len, hl]
      repeat (first | refine g_endt ?_ | refine g_end ?_ | refine g_then ?_ | refine g_in_normal ?_ | refine g_then_ret ?_ | refine g_in_ret ?_ | refine g_then_exit ?_ | refine g_in_exit rfl ?_ | refine g_in_exit_ne (by decide) ?_ | refine g_seq ?_ | refine g_region ?_ | refine g_block ?_ | refine g_ret ?_ | refine g_return_n ?_ | refine g_exit ?_ | refine g_skip ?_)
      refine o_load1 (v := .int .i64 (la : Int)) rfl rfl ?_
      refine o_load1 (v := .slice A la ca) rfl rfl ?_
      refine o_len rfl rfl ?_
      refine o_eql rfl rfl ?_
      rw [show ((la : Int) == (la : Int)) = true by simp]
      refine o_move ?_
      refine o_want rfl rfl rfl rfl rfl (o_call wakes02_spec rfl rfl ?_)
      rintro _ _ ⟨rfl, rfl⟩
      refine o_pick_t rfl rfl ?_
      refine o_store (v := .bool true) rfl rfl rfl rfl rfl ?_
      refine g_endt ?_
      refine G.norm r #[.bool true] rfl ?_
      repeat (first | refine g_endt ?_ | refine g_end ?_ | refine g_then ?_ | refine g_in_normal ?_ | refine g_then_ret ?_ | refine g_in_ret ?_ | refine g_then_exit ?_ | refine g_in_exit rfl ?_ | refine g_in_exit_ne (by decide) ?_ | refine g_seq ?_ | refine g_region ?_ | refine g_block ?_ | refine g_ret ?_ | refine g_return_n ?_ | refine g_exit ?_ | refine g_skip ?_)
      exact ret1 (K := []) rfl (resC1 (v := .bool true) rfl rfl) ⟨rfl, rfl⟩
    · intro D c pre hp
      exact G.pu fun h => h.elim
end Go.Proofs.Ytlognaddmbolgaa
