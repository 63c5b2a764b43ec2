/- A map and the plain one, filled alike. -/
import Derived.Test.YtlognaddmbolgaaK9
import Derived.Test.YtlognaddmbolgaaK0
namespace Go.Proofs.Ytlognaddmbolgaa
open Go Go.Sl
attribute [local irreducible] Code.wpIn roundPost bodyPostM runL Ret Meets Begin

theorem find_uniq {α : Type} {f : α → α → Int} (lf : LinCmp f) {ys : List α} {x : α} {k k' : Nat} {t t' : Bool} (hs : Srt f ys) (h : FindR f ys x k t) (h' : FindR f ys x k' t') : k = k' ∧ t = t' := by
  have cross : ∀ {k k' : Nat}, FindR f ys x k true → FindR f ys x k' false → False := fun {k k'} h h' => by
    obtain ⟨y, hy, e⟩ := h.2.1 rfl
    obtain ⟨h1, h2⟩ := h'.2.2 rfl
    by_cases hlt : k < k'
    · have := h1 k y hlt hy; omega
    · have := h2 k y (by omega) hy; omega
  cases t <;> cases t'
  · refine ⟨?_, rfl⟩
    obtain ⟨h1, h2⟩ := h.2.2 rfl
    obtain ⟨h3, h4⟩ := h'.2.2 rfl
    have hk := h.1
    have hk' := h'.1
    rcases Nat.lt_trichotomy k k' with hlt | he | hlt
    · obtain ⟨y, hy⟩ : ∃ y, ys[k]? = some y := ⟨_, List.getElem?_eq_getElem (by omega)⟩
      have := h3 k y hlt hy
      have := h2 k y (Nat.le_refl _) hy
      omega
    · exact he
    · obtain ⟨y, hy⟩ : ∃ y, ys[k']? = some y := ⟨_, List.getElem?_eq_getElem (by omega)⟩
      have := h1 k' y hlt hy
      have := h4 k' y (Nat.le_refl _) hy
      omega
  · exact (cross h' h).elim
  · exact (cross h h').elim
  · exact ⟨FindR.one lf hs h h', rfl⟩
theorem put_srt {ys : List PgSI} {s : SymD} {v : Int} {i : Nat} {there : Bool} (hs : Srt PgSI.cmp ys) (h : FindR PgSI.cmp ys ⟨s, v⟩ i there) : Srt PgSI.cmp (putLSI ys s v i there) ∧ (putLSI ys s v i there).length ≤ ys.length + 1 := by
  cases there with
  | false => exact ⟨Srt.ins PgSI.lin hs h, by show (ys.take i ++ ⟨s, v⟩ :: ys.drop i).length ≤ _; have := h.1; simp; omega⟩
  | true =>
    obtain ⟨y, hy, _⟩ := h.2.1 rfl
    have e : putLSI ys s v i true = ys.set i ⟨y.k, v⟩ := by
      show ys.set i ⟨(ys[i]?.map (·.k)).getD s, v⟩ = _
      rw [hy]; rfl
    rw [e]
    exact ⟨Srt.set PgSI.lin hs hy (linSym.refl y.k), by simp⟩
theorem filled_spec (A : Option Addr) (la ca : Nat) (xs : List SymD) (hl : xs.length = la) (hm : la ≤ 1000) : Ctr Try.prog 15 [.slice A la ca] [psl encS 3 A xs]
    (fun v M => ∃ m p ys, v = .tuple #[.pointer (some ⟨m, 0, none⟩), .pointer (some ⟨p, 0, none⟩)] ∧ M = [MapASI m ys, PlA p ys] ∧ Srt PgSI.cmp ys ∧ ys.length ≤ la) := by
  refine spec_of Try.func15 rfl Try.ntmps15 rfl fun w0 F => ?_
  repeat (first | refine g_endt ?_ | refine g_end ?_ | refine g_then ?_ | refine g_in_normal ?_ | refine g_then_ret ?_ | refine g_in_ret ?_ | refine g_then_exit ?_ | refine g_in_exit rfl ?_ | refine g_in_exit_ne (by decide) ?_ | refine g_seq ?_ | refine g_region ?_ | refine g_block ?_ | refine g_ret ?_ | refine g_return_n ?_ | refine g_exit ?_ | refine g_skip ?_)
  refine o_assign ?_
  refine o_assign ?_
  refine g_endt ?_
  repeat (first | refine g_endt ?_ | refine g_end ?_ | refine g_then ?_ | refine g_in_normal ?_ | refine g_then_ret ?_ | refine g_in_ret ?_ | refine g_then_exit ?_ | refine g_in_exit rfl ?_ | refine g_in_exit_ne (by decide) ?_ | refine g_seq ?_ | refine g_region ?_ | refine g_block ?_ | refine g_ret ?_ | refine g_return_n ?_ | refine g_exit ?_ | refine g_skip ?_)
  refine o_call NewMSI_spec rfl rfl ?_
  rintro _ _ ⟨m, rfl, rfl⟩
  refine o_assign ?_
  refine g_endt ?_
  repeat (first | refine g_endt ?_ | refine g_end ?_ | refine g_then ?_ | refine g_in_normal ?_ | refine g_then_ret ?_ | refine g_in_ret ?_ | refine g_then_exit ?_ | refine g_in_exit rfl ?_ | refine g_in_exit_ne (by decide) ?_ | refine g_seq ?_ | refine g_region ?_ | refine g_block ?_ | refine g_ret ?_ | refine g_return_n ?_ | refine g_exit ?_ | refine g_skip ?_)
  refine o_build (.agg #[.slice none 0 0, .slice none 0 0]) (fun w => by kernel_rfl) ?_
  refine o_boxc #[.slice none 0 0, .slice none 0 0] rfl rfl fun p => ?_
  refine o_assign ?_
  refine g_endt ?_
  refine G.nil_slice 3 encI 1 ?_
  refine G.nil_slice 27 encS 3 ?_
  refine G.freeze_slice ?_
  refine shutPl p [] none none 0 0 (n := 0) rfl (Nat.le_refl _) (tk := (inferInstance : Take _ [cellsB p #[.slice none 0 0, .slice none 0 0] 48, psl encS 3 none [], osl 3 encI 1 none 0 []] _)) ?_
  repeat (first | refine g_endt ?_ | refine g_end ?_ | refine g_then ?_ | refine g_in_normal ?_ | refine g_then_ret ?_ | refine g_in_ret ?_ | refine g_then_exit ?_ | refine g_in_exit rfl ?_ | refine g_in_exit_ne (by decide) ?_ | refine g_seq ?_ | refine g_region ?_ | refine g_block ?_ | refine g_ret ?_ | refine g_return_n ?_ | refine g_exit ?_ | refine g_skip ?_)
  refine o_assign ?_
  refine g_endt ?_
  repeat (first | refine g_endt ?_ | refine g_end ?_ | refine g_then ?_ | refine g_in_normal ?_ | refine g_then_ret ?_ | refine g_in_ret ?_ | refine g_then_exit ?_ | refine g_in_exit rfl ?_ | refine g_in_exit_ne (by decide) ?_ | refine g_seq ?_ | refine g_region ?_ | refine g_block ?_ | refine g_ret ?_ | refine g_return_n ?_ | refine g_exit ?_ | refine g_skip ?_)
  refine g_loop (σ := {t : Nat × List PgSI // t.1 ≤ la ∧ Srt PgSI.cmp t.2 ∧ t.2.length ≤ t.1}) (S := fun t => [(0, .slice A la ca), (4, .pointer (some ⟨m, 0, none⟩)), (5, .pointer (some ⟨p, 0, none⟩)), (6, .int .i64 (t.1.1 : Int))])
    (H := fun t => [PlA p t.1.2, MapASI m t.1.2, psl encS 3 A xs]) (μ := fun t => la - t.1.1) (s0 := ⟨(0, []), Nat.zero_le _, fun i j a b _ h => by simp at h, Nat.le_refl _⟩) (Sat.mem ⟨rfl, rfl, rfl, rfl, trivial⟩) ?_
  rintro ⟨⟨i, ys⟩, hi, hs, hyl⟩ ρ'
  dsimp only at hi hs hyl ⊢
  repeat (first | refine g_endt ?_ | refine g_end ?_ | refine g_then ?_ | refine g_in_normal ?_ | refine g_then_ret ?_ | refine g_in_ret ?_ | refine g_then_exit ?_ | refine g_in_exit rfl ?_ | refine g_in_exit_ne (by decide) ?_ | refine g_seq ?_ | refine g_region ?_ | refine g_block ?_ | refine g_ret ?_ | refine g_return_n ?_ | refine g_exit ?_ | refine g_skip ?_)
  refine o_move ?_
  refine o_move ?_
  refine o_len rfl rfl ?_
  refine o_lss rfl rfl ?_
  by_cases h : i < la
  · rw [show decide ((i : Int) < (la : Int)) = true from decide_eq_true (by omega)]
    have hi' : i < xs.length := by omega
    obtain ⟨x, hx⟩ : ∃ x, xs[i]? = some x := ⟨_, List.getElem?_eq_getElem hi'⟩
    refine o_move ?_
    refine o_want rfl rfl rfl rfl rfl (o_move ?_)
    refine o_want rfl rfl rfl rfl rfl (o_pneq rfl ?_)
    refine o_pick_t rfl rfl ?_
    first | refine g_endt ?_ | refine g_end ?_
    first | refine g_seq (g_cond_t rfl (rfl) ?_) | refine g_cond_t rfl (rfl) ?_
    repeat (first | refine g_endt ?_ | refine g_end ?_ | refine g_then ?_ | refine g_in_normal ?_ | refine g_then_ret ?_ | refine g_in_ret ?_ | refine g_then_exit ?_ | refine g_in_exit rfl ?_ | refine g_in_exit_ne (by decide) ?_ | refine g_seq ?_ | refine g_region ?_ | refine g_block ?_ | refine g_ret ?_ | refine g_return_n ?_ | refine g_exit ?_ | refine g_skip ?_)
    refine o_move ?_
    refine o_move ?_
    refine o_move ?_
    refine o_indexR (ys := xs) (i := i) rfl rfl rfl hi' hl rfl ?_
    refine o_loadE (ys := xs) rfl rfl hx ?_
    refine o_move ?_
    refine o_call (PutMSI_spec m ys x (i : Int) hs (by omega)) rfl rfl ?_
    rintro _ _ ⟨k, there, rfl, rfl, hk⟩
    first | refine g_endt ?_ | refine g_end ?_
    repeat (first | refine g_endt ?_ | refine g_end ?_ | refine g_then ?_ | refine g_in_normal ?_ | refine g_then_ret ?_ | refine g_in_ret ?_ | refine g_then_exit ?_ | refine g_in_exit rfl ?_ | refine g_in_exit_ne (by decide) ?_ | refine g_seq ?_ | refine g_region ?_ | refine g_block ?_ | refine g_ret ?_ | refine g_return_n ?_ | refine g_exit ?_ | refine g_skip ?_)
    refine o_move ?_
    refine o_move ?_
    refine o_move ?_
    refine o_indexR (ys := xs) (i := i) rfl rfl rfl hi' hl rfl ?_
    refine o_loadE (ys := xs) rfl rfl hx ?_
    refine o_move ?_
    refine o_call (putPl_spec p ys x (i : Int) hs (by omega)) rfl rfl ?_
    rintro _ _ ⟨k2, there2, rfl, hk2⟩
    obtain ⟨rfl, rfl⟩ := find_uniq PgSI.lin hs hk hk2
    obtain ⟨hs2, hl2⟩ := put_srt hs hk
    first | refine g_endt ?_ | refine g_end ?_
    repeat (first | refine g_endt ?_ | refine g_end ?_ | refine g_then ?_ | refine g_in_normal ?_ | refine g_then_ret ?_ | refine g_in_ret ?_ | refine g_then_exit ?_ | refine g_in_exit rfl ?_ | refine g_in_exit_ne (by decide) ?_ | refine g_seq ?_ | refine g_region ?_ | refine g_block ?_ | refine g_ret ?_ | refine g_return_n ?_ | refine g_exit ?_ | refine g_skip ?_)
    refine o_move ?_
    refine o_add (c := ((i + 1 : Nat) : Int)) rfl rfl (by omega) (by omega) (by omega) ?_
    refine o_assign ?_
    first | refine g_endt ?_ | refine g_end ?_
    repeat (first | refine g_endt ?_ | refine g_end ?_ | refine g_then ?_ | refine g_in_normal ?_ | refine g_then_ret ?_ | refine g_in_ret ?_ | refine g_then_exit ?_ | refine g_in_exit rfl ?_ | refine g_in_exit_ne (by decide) ?_ | refine g_seq ?_ | refine g_region ?_ | refine g_block ?_ | refine g_ret ?_ | refine g_return_n ?_ | refine g_exit ?_ | refine g_skip ?_)
    exact g_meets ⟨(i + 1, putLSI ys x (i : Int) k there), h, hs2, by show (putLSI ys x (i : Int) k there).length ≤ i + 1; omega⟩ (by show la - (i + 1) < la - i; omega) (Sat.mem ⟨rfl, rfl, rfl, rfl, trivial⟩)
  · rw [show decide ((i : Int) < (la : Int)) = false from decide_eq_false (by omega)]
    refine o_move ?_
    refine o_unwanted rfl rfl rfl rfl rfl ?_
    refine o_unwanted rfl rfl rfl rfl rfl ?_
    refine o_pick_f rfl rfl ?_
    first | refine g_endt ?_ | refine g_end ?_
    first | refine g_seq (g_cond_f rfl (rfl) ?_) | refine g_cond_f rfl (rfl) ?_
    repeat (first | refine g_endt ?_ | refine g_end ?_ | refine g_then ?_ | refine g_in_normal ?_ | refine g_then_ret ?_ | refine g_in_ret ?_ | refine g_then_exit ?_ | refine g_in_exit rfl ?_ | refine g_in_exit_ne (by decide) ?_ | refine g_seq ?_ | refine g_region ?_ | refine g_block ?_ | refine g_ret ?_ | refine g_return_n ?_ | refine g_exit ?_ | refine g_skip ?_)
    refine o_move ?_
    refine o_move ?_
    refine o_assign ?_
    refine o_assign ?_
    refine g_endt ?_
    repeat (first | refine g_endt ?_ | refine g_end ?_ | refine g_then ?_ | refine g_in_normal ?_ | refine g_then_ret ?_ | refine g_in_ret ?_ | refine g_then_exit ?_ | refine g_in_exit rfl ?_ | refine g_in_exit_ne (by decide) ?_ | refine g_seq ?_ | refine g_region ?_ | refine g_block ?_ | refine g_ret ?_ | refine g_return_n ?_ | refine g_exit ?_ | refine g_skip ?_)
    exact ret2 rfl (resT rfl) (resT rfl) ⟨m, p, ys, rfl, rfl, hs, by omega⟩
end Go.Proofs.Ytlognaddmbolgaa
