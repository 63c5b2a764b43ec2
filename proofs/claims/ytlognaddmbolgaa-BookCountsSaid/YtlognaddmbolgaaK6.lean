/- The law on counts, walked. -/
import Derived.Test.YtlognaddmbolgaaK5
import Derived.Test.YtlognaddmbolgaaK0
namespace Go.Proofs.Ytlognaddmbolgaa
open Go Go.Sl
attribute [local irreducible] Code.wpIn roundPost bodyPostM runL Ret Meets Begin

theorem sum_bound (N : Nat) : ∀ (l : List Int), (∀ x ∈ l, 0 ≤ x ∧ x ≤ (N : Int)) → ∀ i, 0 ≤ (l.take i).sum ∧ (l.take i).sum ≤ (l.length : Int) * (N : Int)
  | [], _, i => by simp
  | x :: l, h, 0 => by
    refine ⟨by simp, ?_⟩
    simp
    exact Int.mul_nonneg (by omega) (by omega)
  | x :: l, h, i + 1 => by
    have h1 := sum_bound N l (fun y hy => h y (List.mem_cons_of_mem _ hy)) i
    have h2 := h x List.mem_cons_self
    simp only [List.take_succ_cons, List.sum_cons, List.length_cons]
    have : ((l.length + 1 : Nat) : Int) * (N : Int) = (l.length : Int) * N + N := by rw [Int.natCast_add, Int.add_mul]; omega
    omega
theorem sum_take_snoc (l : List Int) (i : Nat) (x : Int) (h : l[i]? = some x) : (l.take (i + 1)).sum = (l.take i).sum + x := by
  rw [take_snoc l i x h, List.sum_append]; simp
theorem cnt_pos {l : List SymD} {x : SymD} (h : x ∈ l) : 0 < cnt l x := List.countP_pos_iff.2 ⟨x, h, SymD.beq_self x⟩
theorem BookCounts_spec (A : Option Addr) (la ca : Nat) (xs : List SymD) (hl : xs.length = la) (hm : la ≤ 9223372036854775807) : Ctr Try.prog 7 [.slice A la ca] [psl encS 3 A xs] (fun v M => v = .bool true ∧ M = []) := by
  refine spec_of Try.func7 rfl Try.ntmps7 rfl fun w0 F => ?_
  repeat (first | refine g_endt ?_ | refine g_end ?_ | refine g_then ?_ | refine g_in_normal ?_ | refine g_then_ret ?_ | refine g_in_ret ?_ | refine g_then_exit ?_ | refine g_in_exit rfl ?_ | refine g_in_exit_ne (by decide) ?_ | refine g_seq ?_ | refine g_region ?_ | refine g_block ?_ | refine g_ret ?_ | refine g_return_n ?_ | refine g_exit ?_ | refine g_skip ?_)
  refine o_assign ?_
  first | refine g_endt ?_ | refine g_end ?_
  repeat (first | refine g_endt ?_ | refine g_end ?_ | refine g_then ?_ | refine g_in_normal ?_ | refine g_then_ret ?_ | refine g_in_ret ?_ | refine g_then_exit ?_ | refine g_in_exit rfl ?_ | refine g_in_exit_ne (by decide) ?_ | refine g_seq ?_ | refine g_region ?_ | refine g_block ?_ | refine g_ret ?_ | refine g_return_n ?_ | refine g_exit ?_ | refine g_skip ?_)
  refine o_move ?_
  refine o_len rfl rfl ?_
  refine o_gtr rfl rfl ?_
  first | refine g_endt ?_ | refine g_end ?_
  by_cases h100 : 100 < la
  · first | refine g_seq (g_cond_t rfl (by simp; omega) ?_) | refine g_cond_t rfl (by simp; omega) ?_
    repeat (first | refine g_endt ?_ | refine g_end ?_ | refine g_then ?_ | refine g_in_normal ?_ | refine g_then_ret ?_ | refine g_in_ret ?_ | refine g_then_exit ?_ | refine g_in_exit rfl ?_ | refine g_in_exit_ne (by decide) ?_ | refine g_seq ?_ | refine g_region ?_ | refine g_block ?_ | refine g_ret ?_ | refine g_return_n ?_ | refine g_exit ?_ | refine g_skip ?_)
    refine o_call wakes02_spec rfl rfl ?_
    rintro _ _ ⟨rfl, rfl⟩
    refine o_assign ?_
    refine g_endt ?_
    repeat (first | refine g_endt ?_ | refine g_end ?_ | refine g_then ?_ | refine g_in_normal ?_ | refine g_then_ret ?_ | refine g_in_ret ?_ | refine g_then_exit ?_ | refine g_in_exit rfl ?_ | refine g_in_exit_ne (by decide) ?_ | refine g_seq ?_ | refine g_region ?_ | refine g_block ?_ | refine g_ret ?_ | refine g_return_n ?_ | refine g_exit ?_ | refine g_skip ?_)
    exact ret1 (K := []) rfl (resT rfl) ⟨rfl, rfl⟩
  first | refine g_seq (g_cond_f rfl (by simp; omega) ?_) | refine g_cond_f rfl (by simp; omega) ?_
  repeat (first | refine g_endt ?_ | refine g_end ?_ | refine g_then ?_ | refine g_in_normal ?_ | refine g_then_ret ?_ | refine g_in_ret ?_ | refine g_then_exit ?_ | refine g_in_exit rfl ?_ | refine g_in_exit_ne (by decide) ?_ | refine g_seq ?_ | refine g_region ?_ | refine g_block ?_ | refine g_ret ?_ | refine g_return_n ?_ | refine g_exit ?_ | refine g_skip ?_)
  refine o_move ?_
  refine o_call (OfSym_spec A la ca) rfl rfl ?_
  rintro _ _ ⟨b, rfl, rfl⟩
  refine o_callp (Count_spec 70 [.pointer (some ⟨b, 0, none⟩)] xs (by omega) [pblk b (.cells #[.slice A la ca] 35 (0, 0)), psl encS 3 A xs] (fun w => by kernel_rfl) (fun w => by kernel_rfl) (fun K => OfSym1_iter b A la ca xs hl hm _)) rfl rfl ?_
  rintro _ _ ⟨m, ys, rfl, rfl, hC⟩
  have hyl : ys.length ≤ 100 := by have := hC.len; omega
  refine o_assign ?_
  refine g_endt ?_
  repeat (first | refine g_endt ?_ | refine g_end ?_ | refine g_then ?_ | refine g_in_normal ?_ | refine g_then_ret ?_ | refine g_in_ret ?_ | refine g_then_exit ?_ | refine g_in_exit rfl ?_ | refine g_in_exit_ne (by decide) ?_ | refine g_seq ?_ | refine g_region ?_ | refine g_block ?_ | refine g_ret ?_ | refine g_return_n ?_ | refine g_exit ?_ | refine g_skip ?_)
  refine o_move ?_
  refine o_peql rfl ?_
  refine g_endt ?_
  first | refine g_seq (g_cond_f rfl (rfl) ?_) | refine g_cond_f rfl (rfl) ?_
  repeat (first | refine g_endt ?_ | refine g_end ?_ | refine g_then ?_ | refine g_in_normal ?_ | refine g_then_ret ?_ | refine g_in_ret ?_ | refine g_then_exit ?_ | refine g_in_exit rfl ?_ | refine g_in_exit_ne (by decide) ?_ | refine g_seq ?_ | refine g_region ?_ | refine g_block ?_ | refine g_ret ?_ | refine g_return_n ?_ | refine g_exit ?_ | refine g_skip ?_)
  refine o_assign ?_
  refine g_endt ?_
  repeat (first | refine g_endt ?_ | refine g_end ?_ | refine g_then ?_ | refine g_in_normal ?_ | refine g_then_ret ?_ | refine g_in_ret ?_ | refine g_then_exit ?_ | refine g_in_exit rfl ?_ | refine g_in_exit_ne (by decide) ?_ | refine g_seq ?_ | refine g_region ?_ | refine g_block ?_ | refine g_ret ?_ | refine g_return_n ?_ | refine g_exit ?_ | refine g_skip ?_)
  refine o_assign ?_
  refine g_endt ?_
  repeat (first | refine g_endt ?_ | refine g_end ?_ | refine g_then ?_ | refine g_in_normal ?_ | refine g_then_ret ?_ | refine g_in_ret ?_ | refine g_then_exit ?_ | refine g_in_exit rfl ?_ | refine g_in_exit_ne (by decide) ?_ | refine g_seq ?_ | refine g_region ?_ | refine g_block ?_ | refine g_ret ?_ | refine g_return_n ?_ | refine g_exit ?_ | refine g_skip ?_)
  refine g_loop (σ := {i : Nat // i ≤ la}) (S := fun i => [(0, .slice A la ca), (3, .pointer (some ⟨m, 0, none⟩)), (4, .int .i64 0), (5, .int .i64 (i.1 : Int))]) (H := fun _ => [MapASI m ys, psl encS 3 A xs]) (μ := fun i => la - i.1)
    (s0 := ⟨0, Nat.zero_le _⟩) (Sat.mem ⟨rfl, rfl, rfl, rfl, trivial⟩) ?_
  rintro ⟨i, hi⟩ ρ'
  dsimp only at hi ⊢
  repeat (first | refine g_endt ?_ | refine g_end ?_ | refine g_then ?_ | refine g_in_normal ?_ | refine g_then_ret ?_ | refine g_in_ret ?_ | refine g_then_exit ?_ | refine g_in_exit rfl ?_ | refine g_in_exit_ne (by decide) ?_ | refine g_seq ?_ | refine g_region ?_ | refine g_block ?_ | refine g_ret ?_ | refine g_return_n ?_ | refine g_exit ?_ | refine g_skip ?_)
  refine o_move ?_
  refine o_move ?_
  refine o_len rfl rfl ?_
  refine o_lss rfl rfl ?_
  first | refine g_endt ?_ | refine g_end ?_
  by_cases h : i < la
  · first | refine g_seq (g_cond_t rfl (by simpa using h) ?_) | refine g_cond_t rfl (by simpa using h) ?_
    have hi' : i < xs.length := by omega
    obtain ⟨x, hx⟩ : ∃ x, xs[i]? = some x := ⟨_, List.getElem?_eq_getElem hi'⟩
    repeat (first | refine g_endt ?_ | refine g_end ?_ | refine g_then ?_ | refine g_in_normal ?_ | refine g_then_ret ?_ | refine g_in_ret ?_ | refine g_then_exit ?_ | refine g_in_exit rfl ?_ | refine g_in_exit_ne (by decide) ?_ | refine g_seq ?_ | refine g_region ?_ | refine g_block ?_ | refine g_ret ?_ | refine g_return_n ?_ | refine g_exit ?_ | refine g_skip ?_)
    refine o_assign ?_
    refine g_endt ?_
    repeat (first | refine g_endt ?_ | refine g_end ?_ | refine g_then ?_ | refine g_in_normal ?_ | refine g_then_ret ?_ | refine g_in_ret ?_ | refine g_then_exit ?_ | refine g_in_exit rfl ?_ | refine g_in_exit_ne (by decide) ?_ | refine g_seq ?_ | refine g_region ?_ | refine g_block ?_ | refine g_ret ?_ | refine g_return_n ?_ | refine g_exit ?_ | refine g_skip ?_)
    refine o_assign ?_
    refine g_endt ?_
    repeat (first | refine g_endt ?_ | refine g_end ?_ | refine g_then ?_ | refine g_in_normal ?_ | refine g_then_ret ?_ | refine g_in_ret ?_ | refine g_then_exit ?_ | refine g_in_exit rfl ?_ | refine g_in_exit_ne (by decide) ?_ | refine g_seq ?_ | refine g_region ?_ | refine g_block ?_ | refine g_ret ?_ | refine g_return_n ?_ | refine g_exit ?_ | refine g_skip ?_)
    refine g_loop (σ := {k : Nat // k ≤ la}) (S := fun k => [(0, .slice A la ca), (3, .pointer (some ⟨m, 0, none⟩)), (4, .int .i64 0), (5, .int .i64 (i : Int)), (6, .int .i64 (cnt (xs.take k.1) x : Int)), (7, .int .i64 (k.1 : Int))]) (H := fun _ => [MapASI m ys, psl encS 3 A xs]) (μ := fun k => la - k.1)
      (s0 := ⟨0, Nat.zero_le _⟩) (Sat.mem ⟨rfl, rfl, rfl, rfl, rfl, rfl, trivial⟩) ?_
    rintro ⟨k, hk⟩ ρ''
    dsimp only at hk ⊢
    have hcb : cnt (xs.take k) x ≤ k := Nat.le_trans List.countP_le_length (by simp; omega)
    repeat (first | refine g_endt ?_ | refine g_end ?_ | refine g_then ?_ | refine g_in_normal ?_ | refine g_then_ret ?_ | refine g_in_ret ?_ | refine g_then_exit ?_ | refine g_in_exit rfl ?_ | refine g_in_exit_ne (by decide) ?_ | refine g_seq ?_ | refine g_region ?_ | refine g_block ?_ | refine g_ret ?_ | refine g_return_n ?_ | refine g_exit ?_ | refine g_skip ?_)
    refine o_move ?_
    refine o_move ?_
    refine o_len rfl rfl ?_
    refine o_lss rfl rfl ?_
    first | refine g_endt ?_ | refine g_end ?_
    by_cases h2 : k < la
    · first | refine g_seq (g_cond_t rfl (by simpa using h2) ?_) | refine g_cond_t rfl (by simpa using h2) ?_
      have hk' : k < xs.length := by omega
      obtain ⟨z, hz⟩ : ∃ z, xs[k]? = some z := ⟨_, List.getElem?_eq_getElem hk'⟩
      have hs : cnt (xs.take (k + 1)) x = cnt (xs.take k) x + if z.beq x = true then 1 else 0 := by rw [take_snoc xs k z hz, cnt_snoc]
      repeat (first | refine g_endt ?_ | refine g_end ?_ | refine g_then ?_ | refine g_in_normal ?_ | refine g_then_ret ?_ | refine g_in_ret ?_ | refine g_then_exit ?_ | refine g_in_exit rfl ?_ | refine g_in_exit_ne (by decide) ?_ | refine g_seq ?_ | refine g_region ?_ | refine g_block ?_ | refine g_ret ?_ | refine g_return_n ?_ | refine g_exit ?_ | refine g_skip ?_)
      refine g_draw [] [0,1,2,3,4,5,6,7,8] [psl encS 3 A xs] mixed rfl ?_
      refine ob_q rfl rfl ⟨_, fun X Q h => o_move (g_end (h _ _ ⟨rfl, rfl⟩)), ?_⟩
      refine ob_q rfl rfl ⟨_, fun X Q h => o_move (g_end (h _ _ ⟨rfl, rfl⟩)), ?_⟩
      refine ob_q rfl rfl ⟨_, fun X Q h => o_indexR (ys := xs) (i := k) rfl rfl rfl hk' hl rfl (g_end (h _ _ ⟨rfl, rfl⟩)), ?_⟩
      refine ob_q rfl rfl ⟨_, fun X Q h => o_loadE (ys := xs) rfl rfl hz (g_end (h _ _ ⟨rfl, rfl⟩)), ?_⟩
      refine ob_q rfl rfl ⟨_, fun X Q h => o_move (g_end (h _ _ ⟨rfl, rfl⟩)), ?_⟩
      refine ob_q rfl rfl ⟨_, fun X Q h => o_move (g_end (h _ _ ⟨rfl, rfl⟩)), ?_⟩
      refine ob_q rfl rfl ⟨_, fun X Q h => o_indexR (ys := xs) (i := i) rfl rfl rfl hi' hl rfl (g_end (h _ _ ⟨rfl, rfl⟩)), ?_⟩
      refine ob_q rfl rfl ⟨_, fun X Q h => o_loadE (ys := xs) rfl rfl hx (g_end (h _ _ ⟨rfl, rfl⟩)), ?_⟩
      refine ob_q rfl rfl ⟨_, fun X Q h => o_eqty rfl rfl (eq_sym z x) (g_end (h _ _ ⟨rfl, rfl⟩)), ?_⟩
      refine ob_nil ?_
      cases hb : z.beq x
      · first | refine g_seq (g_cond_f rfl (rfl) ?_) | refine g_cond_f rfl (rfl) ?_
        rw [hb] at hs
        repeat (first | refine g_endt ?_ | refine g_end ?_ | refine g_then ?_ | refine g_in_normal ?_ | refine g_then_ret ?_ | refine g_in_ret ?_ | refine g_then_exit ?_ | refine g_in_exit rfl ?_ | refine g_in_exit_ne (by decide) ?_ | refine g_seq ?_ | refine g_region ?_ | refine g_block ?_ | refine g_ret ?_ | refine g_return_n ?_ | refine g_exit ?_ | refine g_skip ?_)
        refine o_move ?_
        refine o_add (c := ((k + 1 : Nat) : Int)) rfl rfl (by omega) (by omega) (by omega) ?_
        refine o_assign ?_
        refine g_endt ?_
        repeat (first | refine g_endt ?_ | refine g_end ?_ | refine g_then ?_ | refine g_in_normal ?_ | refine g_then_ret ?_ | refine g_in_ret ?_ | refine g_then_exit ?_ | refine g_in_exit rfl ?_ | refine g_in_exit_ne (by decide) ?_ | refine g_seq ?_ | refine g_region ?_ | refine g_block ?_ | refine g_ret ?_ | refine g_return_n ?_ | refine g_exit ?_ | refine g_skip ?_)
        exact g_meets ⟨k + 1, h2⟩ (by show la - (k + 1) < la - k; omega) (Sat.mem ⟨rfl, rfl, rfl, rfl, by show _ = Value.int .i64 (cnt (xs.take (k + 1)) x : Int); rw [hs]; rfl, rfl, trivial⟩)
      · first | refine g_seq (g_cond_t rfl (rfl) ?_) | refine g_cond_t rfl (rfl) ?_
        rw [hb] at hs
        repeat (first | refine g_endt ?_ | refine g_end ?_ | refine g_then ?_ | refine g_in_normal ?_ | refine g_then_ret ?_ | refine g_in_ret ?_ | refine g_then_exit ?_ | refine g_in_exit rfl ?_ | refine g_in_exit_ne (by decide) ?_ | refine g_seq ?_ | refine g_region ?_ | refine g_block ?_ | refine g_ret ?_ | refine g_return_n ?_ | refine g_exit ?_ | refine g_skip ?_)
        refine o_move ?_
        refine o_add (c := ((cnt (xs.take k) x + 1 : Nat) : Int)) rfl rfl (by omega) (by omega) (by omega) ?_
        refine o_assign ?_
        refine g_end ?_
        repeat (first | refine g_endt ?_ | refine g_end ?_ | refine g_then ?_ | refine g_in_normal ?_ | refine g_then_ret ?_ | refine g_in_ret ?_ | refine g_then_exit ?_ | refine g_in_exit rfl ?_ | refine g_in_exit_ne (by decide) ?_ | refine g_seq ?_ | refine g_region ?_ | refine g_block ?_ | refine g_ret ?_ | refine g_return_n ?_ | refine g_exit ?_ | refine g_skip ?_)
        refine o_move ?_
        refine o_add (c := ((k + 1 : Nat) : Int)) rfl rfl (by omega) (by omega) (by omega) ?_
        refine o_assign ?_
        refine g_endt ?_
        repeat (first | refine g_endt ?_ | refine g_end ?_ | refine g_then ?_ | refine g_in_normal ?_ | refine g_then_ret ?_ | refine g_in_ret ?_ | refine g_then_exit ?_ | refine g_in_exit rfl ?_ | refine g_in_exit_ne (by decide) ?_ | refine g_seq ?_ | refine g_region ?_ | refine g_block ?_ | refine g_ret ?_ | refine g_return_n ?_ | refine g_exit ?_ | refine g_skip ?_)
        exact g_meets ⟨k + 1, h2⟩ (by show la - (k + 1) < la - k; omega) (Sat.mem ⟨rfl, rfl, rfl, rfl, by show _ = Value.int .i64 (cnt (xs.take (k + 1)) x : Int); rw [hs]; rfl, rfl, trivial⟩)
    · first | refine g_seq (g_cond_f rfl (by simpa using h2) ?_) | refine g_cond_f rfl (by simpa using h2) ?_
      have e : xs.take k = xs := List.take_of_length_le (by omega)
      rw [e]
      have hpos : 0 < cnt xs x := cnt_pos (List.mem_of_getElem? hx)
      have hg : getM PgSI.cmp ys ⟨x, PgSI.zero.v⟩ = some ⟨x, (cnt xs x : Int)⟩ := by rw [hC.get, if_neg (by omega)]
      repeat (first | refine g_endt ?_ | refine g_end ?_ | refine g_then ?_ | refine g_in_normal ?_ | refine g_then_ret ?_ | refine g_in_ret ?_ | refine g_then_exit ?_ | refine g_in_exit rfl ?_ | refine g_in_exit_ne (by decide) ?_ | refine g_seq ?_ | refine g_region ?_ | refine g_block ?_ | refine g_ret ?_ | refine g_return_n ?_ | refine g_exit ?_ | refine g_skip ?_)
      refine o_move ?_
      refine o_move ?_
      refine o_move ?_
      refine o_indexR (ys := xs) (i := i) rfl rfl rfl hi' hl rfl ?_
      refine o_loadE (ys := xs) rfl rfl hx ?_
      refine o_call (GetMapSI_spec m ys x hC.srt (by omega)) rfl rfl ?_
      rintro _ _ ⟨rfl, rfl⟩
      rw [hg]
      refine o_move ?_
      refine o_extract rfl rfl ?_
      refine o_extract rfl rfl ?_
      refine o_assign ?_
      refine o_assign ?_
      refine g_endt ?_
      repeat (first | refine g_endt ?_ | refine g_end ?_ | refine g_then ?_ | refine g_in_normal ?_ | refine g_then_ret ?_ | refine g_in_ret ?_ | refine g_then_exit ?_ | refine g_in_exit rfl ?_ | refine g_in_exit_ne (by decide) ?_ | refine g_seq ?_ | refine g_region ?_ | refine g_block ?_ | refine g_ret ?_ | refine g_return_n ?_ | refine g_exit ?_ | refine g_skip ?_)
      refine o_move ?_
      refine o_not rfl ?_
      refine o_move ?_
      refine o_want rfl rfl rfl rfl rfl (o_move ?_)
      refine o_want rfl rfl rfl rfl rfl (o_move ?_)
      refine o_want rfl rfl rfl rfl rfl (o_neq (a := (cnt xs x : Int)) (b := (cnt xs x : Int)) rfl rfl ?_)
      rw [show ((cnt xs x : Int) != (cnt xs x : Int)) = false by simp]
      refine o_pick_f rfl rfl ?_
      refine g_endt ?_
      first | refine g_seq (g_cond_f rfl (rfl) ?_) | refine g_cond_f rfl (rfl) ?_
      repeat (first | refine g_endt ?_ | refine g_end ?_ | refine g_then ?_ | refine g_in_normal ?_ | refine g_then_ret ?_ | refine g_in_ret ?_ | refine g_then_exit ?_ | refine g_in_exit rfl ?_ | refine g_in_exit_ne (by decide) ?_ | refine g_seq ?_ | refine g_region ?_ | refine g_block ?_ | refine g_ret ?_ | refine g_return_n ?_ | refine g_exit ?_ | refine g_skip ?_)
      refine o_move ?_
      refine o_add (c := ((i + 1 : Nat) : Int)) rfl rfl (by omega) (by omega) (by omega) ?_
      refine o_assign ?_
      refine g_endt ?_
      repeat (first | refine g_endt ?_ | refine g_end ?_ | refine g_then ?_ | refine g_in_normal ?_ | refine g_then_ret ?_ | refine g_in_ret ?_ | refine g_then_exit ?_ | refine g_in_exit rfl ?_ | refine g_in_exit_ne (by decide) ?_ | refine g_seq ?_ | refine g_region ?_ | refine g_block ?_ | refine g_ret ?_ | refine g_return_n ?_ | refine g_exit ?_ | refine g_skip ?_)
      exact g_meets ⟨i + 1, h⟩ (by show la - (i + 1) < la - i; omega) (Sat.mem ⟨rfl, rfl, rfl, rfl, trivial⟩)
  · first | refine g_seq (g_cond_f rfl (by simpa using h) ?_) | refine g_cond_f rfl (by simpa using h) ?_
    repeat (first | refine g_endt ?_ | refine g_end ?_ | refine g_then ?_ | refine g_in_normal ?_ | refine g_then_ret ?_ | refine g_in_ret ?_ | refine g_then_exit ?_ | refine g_in_exit rfl ?_ | refine g_in_exit_ne (by decide) ?_ | refine g_seq ?_ | refine g_region ?_ | refine g_block ?_ | refine g_ret ?_ | refine g_return_n ?_ | refine g_exit ?_ | refine g_skip ?_)
    refine o_move ?_
    refine o_build (SymD.val ⟨0, ByteArray.empty, 0⟩) (fun w => by kernel_rfl) ?_
    refine o_call (pairsAll_spec m 1000 ys ⟨0, ByteArray.empty, 0⟩ (by omega) (by omega)) rfl rfl ?_
    rintro _ _ ⟨S, c, T, d, rfl, rfl⟩
    refine o_move ?_
    refine o_extract rfl rfl ?_
    refine o_extract rfl rfl ?_
    refine o_assign ?_
    refine o_assign ?_
    refine g_endt ?_
    repeat (first | refine g_endt ?_ | refine g_end ?_ | refine g_then ?_ | refine g_in_normal ?_ | refine g_then_ret ?_ | refine g_in_ret ?_ | refine g_then_exit ?_ | refine g_in_exit rfl ?_ | refine g_in_exit_ne (by decide) ?_ | refine g_seq ?_ | refine g_region ?_ | refine g_block ?_ | refine g_ret ?_ | refine g_return_n ?_ | refine g_exit ?_ | refine g_skip ?_)
    refine o_assign ?_
    refine g_endt ?_
    repeat (first | refine g_endt ?_ | refine g_end ?_ | refine g_then ?_ | refine g_in_normal ?_ | refine g_then_ret ?_ | refine g_in_ret ?_ | refine g_then_exit ?_ | refine g_in_exit rfl ?_ | refine g_in_exit_ne (by decide) ?_ | refine g_seq ?_ | refine g_region ?_ | refine g_block ?_ | refine g_ret ?_ | refine g_return_n ?_ | refine g_exit ?_ | refine g_skip ?_)
    have hvl : (ys.map PgSI.v).length = ys.length := List.length_map _
    have hvb : ∀ v ∈ ys.map PgSI.v, 0 ≤ v ∧ v ≤ ((100 : Nat) : Int) := fun v hv => by
      obtain ⟨y, hy, rfl⟩ := List.mem_map.1 hv
      have h5 := ((hC.mem y).1 hy).2
      have h6 : cnt xs y.k ≤ xs.length := List.countP_le_length
      rw [h5]; omega
    refine g_loop (σ := {j : Nat // j ≤ ys.length}) (S := fun j => [(0, .slice A la ca), (4, .int .i64 ((ys.map PgSI.v).take j.1).sum), (11, .slice T ys.length d), (12, .int .i64 (j.1 : Int))]) (H := fun _ => [osl 3 encI 1 T d (ys.map PgSI.v), psl encS 3 A xs]) (μ := fun j => ys.length - j.1)
      (s0 := ⟨0, Nat.zero_le _⟩) (Sat.mem ⟨rfl, rfl, rfl, rfl, trivial⟩) ?_
    rintro ⟨j, hj⟩ ρ''
    dsimp only at hj ⊢
    have hsb := sum_bound 100 (ys.map PgSI.v) hvb j
    repeat (first | refine g_endt ?_ | refine g_end ?_ | refine g_then ?_ | refine g_in_normal ?_ | refine g_then_ret ?_ | refine g_in_ret ?_ | refine g_then_exit ?_ | refine g_in_exit rfl ?_ | refine g_in_exit_ne (by decide) ?_ | refine g_seq ?_ | refine g_region ?_ | refine g_block ?_ | refine g_ret ?_ | refine g_return_n ?_ | refine g_exit ?_ | refine g_skip ?_)
    refine o_move ?_
    refine o_move ?_
    refine o_len rfl rfl ?_
    refine o_lss rfl rfl ?_
    first | refine g_endt ?_ | refine g_end ?_
    by_cases h3 : j < ys.length
    · first | refine g_seq (g_cond_t rfl (by simpa using h3) ?_) | refine g_cond_t rfl (by simpa using h3) ?_
      obtain ⟨v, hv⟩ : ∃ v, (ys.map PgSI.v)[j]? = some v := ⟨_, List.getElem?_eq_getElem (by omega)⟩
      have hvv := hvb v (List.mem_of_getElem? hv)
      repeat (first | refine g_endt ?_ | refine g_end ?_ | refine g_then ?_ | refine g_in_normal ?_ | refine g_then_ret ?_ | refine g_in_ret ?_ | refine g_then_exit ?_ | refine g_in_exit rfl ?_ | refine g_in_exit_ne (by decide) ?_ | refine g_seq ?_ | refine g_region ?_ | refine g_block ?_ | refine g_ret ?_ | refine g_return_n ?_ | refine g_exit ?_ | refine g_skip ?_)
      refine o_move ?_
      refine o_move ?_
      refine o_move ?_
      refine o_indexR (ys := ys.map PgSI.v) (i := j) rfl rfl rfl (by omega) hvl rfl ?_
      refine o_loadE0 (ys := ys.map PgSI.v) (v := .int .i64 v) rfl hv rfl ?_
      refine o_add (c := ((ys.map PgSI.v).take j).sum + v) rfl rfl rfl (by omega) (by rw [hvl] at hsb; omega) ?_
      refine o_assign ?_
      refine g_end ?_
      repeat (first | refine g_endt ?_ | refine g_end ?_ | refine g_then ?_ | refine g_in_normal ?_ | refine g_then_ret ?_ | refine g_in_ret ?_ | refine g_then_exit ?_ | refine g_in_exit rfl ?_ | refine g_in_exit_ne (by decide) ?_ | refine g_seq ?_ | refine g_region ?_ | refine g_block ?_ | refine g_ret ?_ | refine g_return_n ?_ | refine g_exit ?_ | refine g_skip ?_)
      refine o_move ?_
      refine o_add (c := ((j + 1 : Nat) : Int)) rfl rfl (by omega) (by omega) (by omega) ?_
      refine o_assign ?_
      refine g_endt ?_
      repeat (first | refine g_endt ?_ | refine g_end ?_ | refine g_then ?_ | refine g_in_normal ?_ | refine g_then_ret ?_ | refine g_in_ret ?_ | refine g_then_exit ?_ | refine g_in_exit rfl ?_ | refine g_in_exit_ne (by decide) ?_ | refine g_seq ?_ | refine g_region ?_ | refine g_block ?_ | refine g_ret ?_ | refine g_return_n ?_ | refine g_exit ?_ | refine g_skip ?_)
      exact g_meets ⟨j + 1, h3⟩ (by show ys.length - (j + 1) < ys.length - j; omega) (Sat.mem ⟨rfl, by show _ = Value.int .i64 ((ys.map PgSI.v).take (j + 1)).sum; rw [sum_take_snoc _ _ _ hv]; rfl, rfl, rfl, trivial⟩)
    · first | refine g_seq (g_cond_f rfl (by simpa using h3) ?_) | refine g_cond_f rfl (by simpa using h3) ?_
      have e : (ys.map PgSI.v).take j = ys.map PgSI.v := List.take_of_length_le (by omega)
      rw [e, hC.sum, hl]
      repeat (first | refine g_endt ?_ | refine g_end ?_ | refine g_then ?_ | refine g_in_normal ?_ | refine g_then_ret ?_ | refine g_in_ret ?_ | refine g_then_exit ?_ | refine g_in_exit rfl ?_ | refine g_in_exit_ne (by decide) ?_ | refine g_seq ?_ | refine g_region ?_ | refine g_block ?_ | refine g_ret ?_ | refine g_return_n ?_ | refine g_exit ?_ | refine g_skip ?_)
      refine o_move ?_
      refine o_move ?_
      refine o_len rfl rfl ?_
      refine o_eql rfl rfl ?_
      rw [show ((la : Int) == (la : Int)) = true by simp]
      refine o_move ?_
      refine o_want rfl rfl rfl rfl rfl (o_call wakes02_spec rfl rfl ?_)
      rintro _ _ ⟨rfl, rfl⟩
      refine o_pick_t rfl rfl ?_
      refine o_assign ?_
      refine g_endt ?_
      repeat (first | refine g_endt ?_ | refine g_end ?_ | refine g_then ?_ | refine g_in_normal ?_ | refine g_then_ret ?_ | refine g_in_ret ?_ | refine g_then_exit ?_ | refine g_in_exit rfl ?_ | refine g_in_exit_ne (by decide) ?_ | refine g_seq ?_ | refine g_region ?_ | refine g_block ?_ | refine g_ret ?_ | refine g_return_n ?_ | refine g_exit ?_ | refine g_skip ?_)
      exact ret1 (K := []) rfl (resT rfl) ⟨rfl, rfl⟩
end Go.Proofs.Ytlognaddmbolgaa
