/- Parts of a proof, in order. -/
import Derived.Test.YtfhkhghjlhohdaaZR3

set_option linter.unusedSimpArgs false
set_option linter.unusedVariables false
/- The levels of goals, and of what is reached: the walk, all of it. -/
namespace Go.Proofs.Ytfhkhghjlhohdaa
open Go Go.Sl
attribute [local irreducible] Code.wpIn roundPost bodyPostM runL Ret Meets MeetsD Begin

structure L1I (gs : List SymD) (xs : List ElemD) (n i : Nat) (ys : List PgSI) (f : SymD → Int) : Prop where
  le : i ≤ n
  ini : Init gs xs i f
  tab : TabP ys f
  keys : ys.map PgSI.k = (gs.take i).foldl (insC SymD.cmp) []
structure L2I (gs : List SymD) (xs : List ElemD) (n i : Nat) (ys : List PgSI) (f : SymD → Int) : Prop where
  le : i ≤ n
  st : Stage gs xs i f
  tab : TabP ys f
theorem L1I.len {gs : List SymD} {xs : List ElemD} {n i : Nat} {ys : List PgSI} {f : SymD → Int} (h : L1I gs xs n i ys f) : ys.length ≤ gs.length + xs.length := tab_len h.tab h.ini.snd
theorem L2I.len {gs : List SymD} {xs : List ElemD} {n i : Nat} {ys : List PgSI} {f : SymD → Int} (h : L2I gs xs n i ys f) : ys.length ≤ gs.length + xs.length := tab_len h.tab h.st.snd
theorem L1I.old {gs : List SymD} {xs : List ElemD} {n i : Nat} {ys : List PgSI} {f : SymD → Int} (h : L1I gs xs n i ys f) {x : SymD} (hx : gs[i]? = some x) (hi : i < n) (hf : f x ≠ 0) : L1I gs xs n (i + 1) ys f :=
  ⟨hi, h.ini.old hx hf, h.tab, by
    rw [foldl_take_succ hx, ← h.keys, insC_old]
    rw [h.tab.has_keys x, decide_eq_true hf]⟩
theorem L1I.new {gs : List SymD} {xs : List ElemD} {n i : Nat} {ys : List PgSI} {f : SymD → Int} (h : L1I gs xs n i ys f) {x : SymD} (hx : gs[i]? = some x) (hi : i < n) (hf : f x = 0) : L1I gs xs n (i + 1) (insC PgSI.cmp ys ⟨x, (i : Int) + 1⟩) (updF f x ((i : Int) + 1)) :=
  ⟨hi, h.ini.new hx hf, h.tab.ins hf (by omega), by rw [foldl_take_succ hx, ← h.keys, insC_keys]⟩
theorem hasC_no {ys : List PgSI} {f : SymD → Int} (h : TabP ys f) {x : SymD} (n : Int) (hf : f x = 0) : hasC PgSI.cmp ys ⟨x, n⟩ = false := by
  rw [← Bool.not_eq_true, h.has x n]; exact fun e => e hf
theorem RunI.next {gs : List SymD} {xs : List ElemD} {i k : Nat} {cur : Option SymD} {pre todo : List SymD} {ys : List PgSI} {f : SymD → Int} (h : RunI gs xs i k cur pre todo ys f) {v : SymD} (hv : v.kind = 1 → f v ≠ 0) : RunI gs xs i k cur (pre ++ [v]) todo ys f :=
  ⟨h.work, h.tab, fun u hu hk => by
    rcases List.mem_append.1 hu with hu | hu
    · exact h.pre u hu hk
    · rw [List.mem_singleton] at hu; subst hu; exact hv hk, h.mu⟩
theorem RunI.add {gs : List SymD} {xs : List ElemD} {i k : Nat} {s g : SymD} {pre todo : List SymD} {ys : List PgSI} {f : SymD → Int} (h : RunI gs xs i k (some s) pre todo ys f) (hg : gs[i]? = some g) {v : SymD} (he : Hop xs s v) (hf : f v = 0) :
    RunI gs xs i k (some s) (pre ++ [v]) (todo ++ [v]) (insC PgSI.cmp ys ⟨v, (i : Int) + 1⟩) (updF f v ((i : Int) + 1)) := by
  have hw := h.work.add hg he hf
  have ht := h.tab.ins hf (n := (i : Int) + 1) (by omega)
  have hl := tab_len ht hw.snd
  have hno := hasC_no h.tab ((i : Int) + 1) hf
  have hle := length_insC (f := PgSI.cmp) ys ⟨v, (i : Int) + 1⟩
  rw [hno] at hle
  simp only [Bool.false_eq_true, if_false] at hle
  refine ⟨hw, ht, fun u hu hk => ?_, ?_⟩
  · by_cases e : u = v
    · subst e; rw [updF_same]; omega
    · rw [updF_ne f _ e]
      rcases List.mem_append.1 hu with hu | hu
      · exact h.pre u hu hk
      · rw [List.mem_singleton] at hu; exact absurd hu e
  · have := h.mu
    simp only [List.length_append, List.length_singleton]
    omega
theorem RunI.begin {gs : List SymD} {xs : List ElemD} {n i : Nat} {ys : List PgSI} {f : SymD → Int} (h : L2I gs xs n i ys f) {g : SymD} (hg : gs[i]? = some g) (hf : f g = (i : Int) + 1) : RunI gs xs i (1 + (gs.length + xs.length)) none [] [g] ys f :=
  ⟨h.st.begin hg hf, h.tab, by simp, by simp⟩
theorem RunI.pop {gs : List SymD} {xs : List ElemD} {i k : Nat} {s : SymD} {todo : List SymD} {ys : List PgSI} {f : SymD → Int} (h : RunI gs xs i k none [] (s :: todo) ys f) : 0 < k ∧ RunI gs xs i (k - 1) (some s) [] todo ys f := by
  have := h.mu
  simp only [List.length_cons] at this
  exact ⟨by omega, h.work.pop, h.tab, by simp, by omega⟩
theorem RunI.shut {gs : List SymD} {xs : List ElemD} {i k : Nat} {s : SymD} {pre todo : List SymD} {ys : List PgSI} {f : SymD → Int} (h : RunI gs xs i k (some s) pre todo ys f) (hp : ∀ b, Hop xs s b → b ∈ pre) : RunI gs xs i k none [] todo ys f :=
  ⟨h.work.shut fun b hb => h.pre b (hp b hb) (by obtain ⟨_, _, _, _, hk⟩ := hb; exact hk), h.tab, by simp, h.mu⟩
theorem RunI.done {gs : List SymD} {xs : List ElemD} {n i k : Nat} {ys : List PgSI} {f : SymD → Int} (h : RunI gs xs i k none [] [] ys f) (hi : i < n) : L2I gs xs n (i + 1) ys f := ⟨hi, h.work.done, h.tab⟩
theorem L2I.skip {gs : List SymD} {xs : List ElemD} {n i : Nat} {ys : List PgSI} {f : SymD → Int} (h : L2I gs xs n i ys f) {g : SymD} (hg : gs[i]? = some g) (hi : i < n) (hf : f g ≠ (i : Int) + 1) : L2I gs xs n (i + 1) ys f := ⟨hi, h.st.skip hg hf, h.tab⟩
set_option maxHeartbeats 4000000 in
theorem Levels_spec (A : Option Addr) (n c : Nat) (gs : List SymD) (hg : gs.length = n) (hn : n ≤ 10000) (gf : FuncId) (lb : List Value) (xs : List ElemD) (hl : xs.length ≤ 10000) (Ks : List SProp) [En Try.prog gf] (hit : ∀ K, Iter Try.prog gf lb encVE xs (K ++ Ks)) :
    Ctr Try.prog 32 [.slice A n c, .func (.func gf) #[] lb.toArray] (psl encS 3 A gs :: Ks)
      (fun v M => ∃ m ys, v = .pointer (some ⟨m, 0, none⟩) ∧ TabP ys (rlev gs xs) ∧ ys.length ≤ n + xs.length ∧ M = MapASI m ys :: psl encS 3 A gs :: Ks) := by
  refine spec_of Try.func32 rfl Try.ntmps32 rfl fun w0 F => ?_
  -- ponder/reach.Levels
  repeat (first | refine g_endt ?_ | refine g_end ?_ | refine g_then ?_ | refine g_in_normal ?_ | refine g_then_ret ?_ | refine g_in_ret ?_ | refine g_then_exit ?_ | refine g_in_exit rfl ?_ | refine g_in_exit_ne (by decide) ?_ | refine g_seq ?_ | refine g_region ?_ | refine g_block ?_ | refine g_ret ?_ | refine g_return_n ?_ | refine g_exit ?_ | refine g_skip ?_)
  refine o_assign ?_
  first | refine g_endt ?_ | refine g_end ?_
  repeat (first | refine g_endt ?_ | refine g_end ?_ | refine g_then ?_ | refine g_in_normal ?_ | refine g_then_ret ?_ | refine g_in_ret ?_ | refine g_then_exit ?_ | refine g_in_exit rfl ?_ | refine g_in_exit_ne (by decide) ?_ | refine g_seq ?_ | refine g_region ?_ | refine g_block ?_ | refine g_ret ?_ | refine g_return_n ?_ | refine g_exit ?_ | refine g_skip ?_)
  refine o_call (NewMSI_spec) rfl rfl ?_
  rintro _ _ ⟨m, rfl, rfl⟩
  refine o_alloc fun c5 => ?_
  refine o_store (v := .pointer (some ⟨m, 0, none⟩)) rfl rfl rfl rfl rfl ?_
  first | refine g_endt ?_ | refine g_end ?_
  refine G.norm c5 #[.pointer (some ⟨m, 0, none⟩)] rfl ?_
  repeat (first | refine g_endt ?_ | refine g_end ?_ | refine g_then ?_ | refine g_in_normal ?_ | refine g_then_ret ?_ | refine g_in_ret ?_ | refine g_then_exit ?_ | refine g_in_exit rfl ?_ | refine g_in_exit_ne (by decide) ?_ | refine g_seq ?_ | refine g_region ?_ | refine g_block ?_ | refine g_ret ?_ | refine g_return_n ?_ | refine g_exit ?_ | refine g_skip ?_)
  refine o_move ?_
  refine o_len rfl rfl ?_
  refine o_move ?_
  first | refine g_endt ?_ | refine g_end ?_
  repeat (first | refine g_endt ?_ | refine g_end ?_ | refine g_then ?_ | refine g_in_normal ?_ | refine g_then_ret ?_ | refine g_in_ret ?_ | refine g_then_exit ?_ | refine g_in_exit rfl ?_ | refine g_in_exit_ne (by decide) ?_ | refine g_seq ?_ | refine g_region ?_ | refine g_block ?_ | refine g_ret ?_ | refine g_return_n ?_ | refine g_exit ?_ | refine g_skip ?_)
  refine g_loopD (σ := {t : Nat × List PgSI × (SymD → Int) // L1I gs xs n t.1 t.2.1 t.2.2}) (S := fun t => [(0, .slice A n c), (1, .func (.func gf) #[] lb.toArray), (5, .pointer (some ⟨c5, 0, none⟩)), (21, .slice A n c), (22, .int .i64 (n : Int)), (23, .int .i64 (t.1.1 : Int))])
    (H := fun t => MapASI m t.1.2.1 :: cellsB c5 #[.pointer (some ⟨m, 0, none⟩)] 61 :: psl encS 3 A gs :: Ks) (μ := fun t => n - t.1.1)
    (s0 := ⟨(0, [], fun _ => 0), Nat.zero_le _, Init.zero, TabP.nil, rfl⟩) (Sat.mem ⟨rfl, rfl, rfl, rfl, rfl, rfl, trivial⟩) (t := (inferInstance : Take _ (MapASI m [] :: cellsB c5 #[.pointer (some ⟨m, 0, none⟩)] 61 :: psl encS 3 A gs :: Ks) _)) ?_
  rintro ⟨⟨i, ys, f⟩, hI⟩ ρ' ds'
  dsimp only at hI ⊢
  have hys := hI.len
  repeat (first | refine g_endt ?_ | refine g_end ?_ | refine g_then ?_ | refine g_in_normal ?_ | refine g_then_ret ?_ | refine g_in_ret ?_ | refine g_then_exit ?_ | refine g_in_exit rfl ?_ | refine g_in_exit_ne (by decide) ?_ | refine g_seq ?_ | refine g_region ?_ | refine g_block ?_ | refine g_ret ?_ | refine g_return_n ?_ | refine g_exit ?_ | refine g_skip ?_)
  refine o_lss rfl rfl ?_
  first | refine g_endt ?_ | refine g_end ?_
  by_cases h : i < n
  · first | refine g_seq (g_cond_t rfl (by first | rfl | (simp; done) | (simp; omega) | (simp; assumption)) ?_) | refine g_cond_t rfl (by first | rfl | (simp; done) | (simp; omega) | (simp; assumption)) ?_
    have hi' : i < gs.length := by omega
    obtain ⟨x, hx⟩ : ∃ x, gs[i]? = some x := ⟨_, List.getElem?_eq_getElem hi'⟩
    repeat (first | refine g_endt ?_ | refine g_end ?_ | refine g_then ?_ | refine g_in_normal ?_ | refine g_then_ret ?_ | refine g_in_ret ?_ | refine g_then_exit ?_ | refine g_in_exit rfl ?_ | refine g_in_exit_ne (by decide) ?_ | refine g_seq ?_ | refine g_region ?_ | refine g_block ?_ | refine g_ret ?_ | refine g_return_n ?_ | refine g_exit ?_ | refine g_skip ?_)
    refine o_move ?_
    refine o_indexR (ys := gs) (i := i) rfl rfl rfl hi' hg rfl ?_
    refine o_loadE (ys := gs) rfl rfl hx ?_
    refine o_alloc fun c7 => ?_
    refine o_assign ?_
    refine o_store (v := x.val) rfl rfl rfl rfl rfl ?_
    first | refine g_endt ?_ | refine g_end ?_
    refine G.norm c7 x.val.cells rfl ?_
    repeat (first | refine g_endt ?_ | refine g_end ?_ | refine g_then ?_ | refine g_in_normal ?_ | refine g_then_ret ?_ | refine g_in_ret ?_ | refine g_then_exit ?_ | refine g_in_exit rfl ?_ | refine g_in_exit_ne (by decide) ?_ | refine g_seq ?_ | refine g_region ?_ | refine g_block ?_ | refine g_ret ?_ | refine g_return_n ?_ | refine g_exit ?_ | refine g_skip ?_)
    refine o_load1 (v := .pointer (some ⟨m, 0, none⟩)) rfl rfl ?_
    refine o_loadN (v := x.val) rfl rfl rfl ?_
    refine o_call (GetLv_spec m ys f x hI.tab (by omega)) rfl rfl ?_
    rintro _ _ ⟨rfl, rfl⟩
    refine o_move ?_
    refine o_extract rfl rfl ?_
    refine o_extract rfl rfl ?_
    refine o_assign ?_
    refine o_assign ?_
    first | refine g_endt ?_ | refine g_end ?_
    repeat (first | refine g_endt ?_ | refine g_end ?_ | refine g_then ?_ | refine g_in_normal ?_ | refine g_then_ret ?_ | refine g_in_ret ?_ | refine g_then_exit ?_ | refine g_in_exit rfl ?_ | refine g_in_exit_ne (by decide) ?_ | refine g_seq ?_ | refine g_region ?_ | refine g_block ?_ | refine g_ret ?_ | refine g_return_n ?_ | refine g_exit ?_ | refine g_skip ?_)
    refine o_move ?_
    refine o_not rfl ?_
    first | refine g_endt ?_ | refine g_end ?_
    by_cases hf : f x = 0
    · first | refine g_seq (g_cond_t rfl (by simp [hf]) ?_) | refine g_cond_t rfl (by simp [hf]) ?_
      repeat (first | refine g_endt ?_ | refine g_end ?_ | refine g_then ?_ | refine g_in_normal ?_ | refine g_then_ret ?_ | refine g_in_ret ?_ | refine g_then_exit ?_ | refine g_in_exit rfl ?_ | refine g_in_exit_ne (by decide) ?_ | refine g_seq ?_ | refine g_region ?_ | refine g_block ?_ | refine g_ret ?_ | refine g_return_n ?_ | refine g_exit ?_ | refine g_skip ?_)
      refine o_load1 (v := .pointer (some ⟨m, 0, none⟩)) rfl rfl ?_
      refine o_loadN (v := x.val) rfl rfl rfl ?_
      refine o_move ?_
      refine o_add (c := (i : Int) + 1) rfl rfl rfl (by omega) (by omega) ?_
      refine o_call (PutNMSI_spec m ys x ((i : Int) + 1) hI.tab.srt (by omega) (hasC_no hI.tab _ hf)) rfl rfl ?_
      rintro _ _ ⟨rfl, rfl⟩
      first | refine g_endt ?_ | refine g_end ?_
      repeat (first | refine g_endt ?_ | refine g_end ?_ | refine g_then ?_ | refine g_in_normal ?_ | refine g_then_ret ?_ | refine g_in_ret ?_ | refine g_then_exit ?_ | refine g_in_exit rfl ?_ | refine g_in_exit_ne (by decide) ?_ | refine g_seq ?_ | refine g_region ?_ | refine g_block ?_ | refine g_ret ?_ | refine g_return_n ?_ | refine g_exit ?_ | refine g_skip ?_)
      refine o_add (c := ((i + 1 : Nat) : Int)) rfl rfl (by omega) (by omega) (by omega) ?_
      refine o_move ?_
      first | refine g_endt ?_ | refine g_end ?_
      repeat (first | refine g_endt ?_ | refine g_end ?_ | refine g_then ?_ | refine g_in_normal ?_ | refine g_then_ret ?_ | refine g_in_ret ?_ | refine g_then_exit ?_ | refine g_in_exit rfl ?_ | refine g_in_exit_ne (by decide) ?_ | refine g_seq ?_ | refine g_region ?_ | refine g_block ?_ | refine g_ret ?_ | refine g_return_n ?_ | refine g_exit ?_ | refine g_skip ?_)
      exact g_meetsD (⟨(i + 1, insC PgSI.cmp ys ⟨x, (i : Int) + 1⟩, updF f x ((i : Int) + 1)), hI.new hx h hf⟩) (by first | exact trivial | (dsimp only; omega)) (Sat.mem (by repeat (first | exact trivial | refine And.intro rfl ?_)))
    · first | refine g_seq (g_cond_f rfl (by simp [hf]) ?_) | refine g_cond_f rfl (by simp [hf]) ?_
      repeat (first | refine g_endt ?_ | refine g_end ?_ | refine g_then ?_ | refine g_in_normal ?_ | refine g_then_ret ?_ | refine g_in_ret ?_ | refine g_then_exit ?_ | refine g_in_exit rfl ?_ | refine g_in_exit_ne (by decide) ?_ | refine g_seq ?_ | refine g_region ?_ | refine g_block ?_ | refine g_ret ?_ | refine g_return_n ?_ | refine g_exit ?_ | refine g_skip ?_)
      refine o_add (c := ((i + 1 : Nat) : Int)) rfl rfl (by omega) (by omega) (by omega) ?_
      refine o_move ?_
      first | refine g_endt ?_ | refine g_end ?_
      repeat (first | refine g_endt ?_ | refine g_end ?_ | refine g_then ?_ | refine g_in_normal ?_ | refine g_then_ret ?_ | refine g_in_ret ?_ | refine g_then_exit ?_ | refine g_in_exit rfl ?_ | refine g_in_exit_ne (by decide) ?_ | refine g_seq ?_ | refine g_region ?_ | refine g_block ?_ | refine g_ret ?_ | refine g_return_n ?_ | refine g_exit ?_ | refine g_skip ?_)
      exact g_meetsD (⟨(i + 1, ys, f), hI.old hx h hf⟩) (by first | exact trivial | (dsimp only; omega)) (Sat.mem (by repeat (first | exact trivial | refine And.intro rfl ?_)))
  first | refine g_seq (g_cond_f rfl (by simp; omega) ?_) | refine g_cond_f rfl (by simp; omega) ?_
  have hin : i = gs.length := by have := hI.le; omega
  subst hin
  have hkeys := hI.keys
  rw [List.take_length] at hkeys
  have hst := hI.ini.stage
  have htab := hI.tab
  clear hI
  repeat (first | refine g_endt ?_ | refine g_end ?_ | refine g_then ?_ | refine g_in_normal ?_ | refine g_then_ret ?_ | refine g_in_ret ?_ | refine g_then_exit ?_ | refine g_in_exit rfl ?_ | refine g_in_exit_ne (by decide) ?_ | refine g_seq ?_ | refine g_region ?_ | refine g_block ?_ | refine g_ret ?_ | refine g_return_n ?_ | refine g_exit ?_ | refine g_skip ?_)
  refine o_move ?_
  refine o_call (ways_spec gf lb xs (by omega) Ks hit) rfl rfl ?_
  rintro _ _ ⟨w, rfl, rfl⟩
  refine o_assign ?_
  first | refine g_endt ?_ | refine g_end ?_
  repeat (first | refine g_endt ?_ | refine g_end ?_ | refine g_then ?_ | refine g_in_normal ?_ | refine g_then_ret ?_ | refine g_in_ret ?_ | refine g_then_exit ?_ | refine g_in_exit rfl ?_ | refine g_in_exit_ne (by decide) ?_ | refine g_seq ?_ | refine g_region ?_ | refine g_block ?_ | refine g_ret ?_ | refine g_return_n ?_ | refine g_exit ?_ | refine g_skip ?_)
  refine o_move ?_
  refine o_callp (NewSSl_spec A n c gs hg (by omega)) rfl rfl ?_
  rintro _ _ ⟨z, rfl, rfl⟩
  refine o_alloc fun c11 => ?_
  refine o_store (v := .pointer (some ⟨z, 0, none⟩)) rfl rfl rfl rfl rfl ?_
  first | refine g_endt ?_ | refine g_end ?_
  refine G.norm c11 #[.pointer (some ⟨z, 0, none⟩)] rfl ?_
  rw [← hkeys]
  repeat (first | refine g_endt ?_ | refine g_end ?_ | refine g_then ?_ | refine g_in_normal ?_ | refine g_then_ret ?_ | refine g_in_ret ?_ | refine g_then_exit ?_ | refine g_in_exit rfl ?_ | refine g_in_exit_ne (by decide) ?_ | refine g_seq ?_ | refine g_region ?_ | refine g_block ?_ | refine g_ret ?_ | refine g_return_n ?_ | refine g_exit ?_ | refine g_skip ?_)
  refine o_move ?_
  refine o_len rfl rfl ?_
  refine o_move ?_
  first | refine g_endt ?_ | refine g_end ?_
  repeat (first | refine g_endt ?_ | refine g_end ?_ | refine g_then ?_ | refine g_in_normal ?_ | refine g_then_ret ?_ | refine g_in_ret ?_ | refine g_then_exit ?_ | refine g_in_exit rfl ?_ | refine g_in_exit_ne (by decide) ?_ | refine g_seq ?_ | refine g_region ?_ | refine g_block ?_ | refine g_ret ?_ | refine g_return_n ?_ | refine g_exit ?_ | refine g_skip ?_)
  refine g_loopD (σ := {t : Nat × List PgSI × (SymD → Int) // L2I gs xs n t.1 t.2.1 t.2.2}) (S := fun t => [(5, .pointer (some ⟨c5, 0, none⟩)), (10, .pointer (some ⟨w, 0, none⟩)), (11, .pointer (some ⟨c11, 0, none⟩)), (46, .slice A n c), (47, .int .i64 (n : Int)), (48, .int .i64 (t.1.1 : Int))])
    (H := fun t => MapASI m t.1.2.1 :: SetASS z (t.1.2.1.map PgSI.k) :: WayP w xs :: cellsB c5 #[.pointer (some ⟨m, 0, none⟩)] 61 :: cellsB c11 #[.pointer (some ⟨z, 0, none⟩)] 76 :: psl encS 3 A gs :: Ks) (μ := fun t => n - t.1.1)
    (s0 := ⟨(0, ys, f), Nat.zero_le _, hst, htab⟩) (Sat.mem ⟨rfl, rfl, rfl, rfl, rfl, rfl, trivial⟩)
    (t := (inferInstance : Take _ (MapASI m ys :: SetASS z (ys.map PgSI.k) :: WayP w xs :: cellsB c5 #[.pointer (some ⟨m, 0, none⟩)] 61 :: cellsB c11 #[.pointer (some ⟨z, 0, none⟩)] 76 :: psl encS 3 A gs :: Ks) _)) ?_
  clear hst htab hkeys hys h ys f
  rintro ⟨⟨i, ys, f⟩, hI⟩ ρ2 ds2
  dsimp only at hI ⊢
  have hys := hI.len
  repeat (first | refine g_endt ?_ | refine g_end ?_ | refine g_then ?_ | refine g_in_normal ?_ | refine g_then_ret ?_ | refine g_in_ret ?_ | refine g_then_exit ?_ | refine g_in_exit rfl ?_ | refine g_in_exit_ne (by decide) ?_ | refine g_seq ?_ | refine g_region ?_ | refine g_block ?_ | refine g_ret ?_ | refine g_return_n ?_ | refine g_exit ?_ | refine g_skip ?_)
  refine o_lss rfl rfl ?_
  first | refine g_endt ?_ | refine g_end ?_
  by_cases h : i < n
  · first | refine g_seq (g_cond_t rfl (by first | rfl | (simp; done) | (simp; omega) | (simp; assumption)) ?_) | refine g_cond_t rfl (by first | rfl | (simp; done) | (simp; omega) | (simp; assumption)) ?_
    have hi' : i < gs.length := by omega
    obtain ⟨x, hx⟩ : ∃ x, gs[i]? = some x := ⟨_, List.getElem?_eq_getElem hi'⟩
    repeat (first | refine g_endt ?_ | refine g_end ?_ | refine g_then ?_ | refine g_in_normal ?_ | refine g_then_ret ?_ | refine g_in_ret ?_ | refine g_then_exit ?_ | refine g_in_exit rfl ?_ | refine g_in_exit_ne (by decide) ?_ | refine g_seq ?_ | refine g_region ?_ | refine g_block ?_ | refine g_ret ?_ | refine g_return_n ?_ | refine g_exit ?_ | refine g_skip ?_)
    refine o_move ?_
    refine o_indexR (ys := gs) (i := i) rfl rfl rfl hi' hg rfl ?_
    refine o_loadE (ys := gs) rfl rfl hx ?_
    refine o_alloc fun c12 => ?_
    refine o_alloc fun c13 => ?_
    refine o_store (v := .int .i64 (i : Int)) rfl rfl rfl rfl rfl ?_
    refine o_store (v := x.val) rfl rfl rfl rfl rfl ?_
    first | refine g_endt ?_ | refine g_end ?_
    refine G.norm c12 #[.int .i64 (i : Int)] rfl ?_
    refine G.norm c13 x.val.cells rfl ?_
    repeat (first | refine g_endt ?_ | refine g_end ?_ | refine g_then ?_ | refine g_in_normal ?_ | refine g_then_ret ?_ | refine g_in_ret ?_ | refine g_then_exit ?_ | refine g_in_exit rfl ?_ | refine g_in_exit_ne (by decide) ?_ | refine g_seq ?_ | refine g_region ?_ | refine g_block ?_ | refine g_ret ?_ | refine g_return_n ?_ | refine g_exit ?_ | refine g_skip ?_)
    refine o_load1 (v := .pointer (some ⟨m, 0, none⟩)) rfl rfl ?_
    refine o_loadN (v := x.val) rfl rfl rfl ?_
    refine o_call (GetLv_spec m ys f x hI.tab (by omega)) rfl rfl ?_
    rintro _ _ ⟨rfl, rfl⟩
    refine o_move ?_
    refine o_extract rfl rfl ?_
    refine o_extract rfl rfl ?_
    refine o_assign ?_
    refine o_assign ?_
    first | refine g_endt ?_ | refine g_end ?_
    repeat (first | refine g_endt ?_ | refine g_end ?_ | refine g_then ?_ | refine g_in_normal ?_ | refine g_then_ret ?_ | refine g_in_ret ?_ | refine g_then_exit ?_ | refine g_in_exit rfl ?_ | refine g_in_exit_ne (by decide) ?_ | refine g_seq ?_ | refine g_region ?_ | refine g_block ?_ | refine g_ret ?_ | refine g_return_n ?_ | refine g_exit ?_ | refine g_skip ?_)
    refine o_move ?_
    refine o_load1 (v := .int .i64 (i : Int)) rfl rfl ?_
    refine o_add (c := (i : Int) + 1) rfl rfl rfl (by omega) (by omega) ?_
    refine o_neq rfl rfl ?_
    first | refine g_endt ?_ | refine g_end ?_
    by_cases hf : f x = (i : Int) + 1
    · first | refine g_seq (g_cond_f rfl (by simp [hf]) ?_) | refine g_cond_f rfl (by simp [hf]) ?_
      repeat (first | refine g_endt ?_ | refine g_end ?_ | refine g_then ?_ | refine g_in_normal ?_ | refine g_then_ret ?_ | refine g_in_ret ?_ | refine g_then_exit ?_ | refine g_in_exit rfl ?_ | refine g_in_exit_ne (by decide) ?_ | refine g_seq ?_ | refine g_region ?_ | refine g_block ?_ | refine g_ret ?_ | refine g_return_n ?_ | refine g_exit ?_ | refine g_skip ?_)
      refine o_loadN (v := x.val) rfl rfl rfl ?_
      refine o_slice_lit (e := 25) x.val.cells (fun w => by kernel_rfl) fun b => ?_
      refine o_alloc fun r => ?_
      refine o_store (v := .slice (some ⟨b, 0, none⟩) 1 1) rfl rfl rfl rfl rfl ?_
      first | refine g_endt ?_ | refine g_end ?_
      refine G.norm r #[.slice (some ⟨b, 0, none⟩) 1 1] rfl ?_
      refine G.lit_q 25 (enc := encS) (sz := 3) b x.val.cells [x] (n := 1) rfl (by simp [encS]) (by simp [maxLen]) ?_
      refine shutR (gs := gs) (xs := xs) r m z i (1 + (gs.length + xs.length)) none [] (some ⟨b, 0, none⟩) 1 [x] ys f (RunI.begin hI hx hf) (n := 1) rfl rfl (tk := (inferInstance : Take _ [qsl 25 encS 3 (some ⟨b, 0, none⟩) 1 [x], cellsB r #[.slice (some ⟨b, 0, none⟩) 1 1] 22, MapASI m ys, SetASS z (ys.map PgSI.k)] _)) ?_
      repeat (first | refine g_endt ?_ | refine g_end ?_ | refine g_then ?_ | refine g_in_normal ?_ | refine g_then_ret ?_ | refine g_in_ret ?_ | refine g_then_exit ?_ | refine g_in_exit rfl ?_ | refine g_in_exit_ne (by decide) ?_ | refine g_seq ?_ | refine g_region ?_ | refine g_block ?_ | refine g_ret ?_ | refine g_return_n ?_ | refine g_exit ?_ | refine g_skip ?_)
      refine g_loopD (σ := {k : Nat // k ≤ 1 + (gs.length + xs.length)}) (S := fun t => [(5, .pointer (some ⟨c5, 0, none⟩)), (10, .pointer (some ⟨w, 0, none⟩)), (11, .pointer (some ⟨c11, 0, none⟩)), (12, .pointer (some ⟨c12, 0, none⟩)), (16, .pointer (some ⟨r, 0, none⟩)), (46, .slice A n c), (47, .int .i64 (n : Int)), (48, .int .i64 (i : Int))])
        (H := fun t => RunP gs xs r m z i t.1 none [] :: WayP w xs :: cellsB c12 #[.int .i64 (i : Int)] 3 :: cellsB c5 #[.pointer (some ⟨m, 0, none⟩)] 61 :: cellsB c11 #[.pointer (some ⟨z, 0, none⟩)] 76 :: psl encS 3 A gs :: Ks) (μ := fun t => t.1)
        (s0 := ⟨1 + (gs.length + xs.length), Nat.le_refl _⟩) (Sat.mem ⟨rfl, rfl, rfl, rfl, rfl, rfl, rfl, rfl, trivial⟩)
        (t := (inferInstance : Take _ (RunP gs xs r m z i (1 + (gs.length + xs.length)) none [] :: WayP w xs :: cellsB c12 #[.int .i64 (i : Int)] 3 :: cellsB c5 #[.pointer (some ⟨m, 0, none⟩)] 61 :: cellsB c11 #[.pointer (some ⟨z, 0, none⟩)] 76 :: psl encS 3 A gs :: Ks) _)) ?_
      clear hys hf hI ys f
      rintro ⟨k, hk⟩ ρ3 ds3
      dsimp only
      refine openR (gs := gs) (xs := xs) r m z i k none [] fun S e todo ys f hR => ?_
      have hys := hR.len
      have hmu := hR.mu
      repeat (first | refine g_endt ?_ | refine g_end ?_ | refine g_then ?_ | refine g_in_normal ?_ | refine g_then_ret ?_ | refine g_in_ret ?_ | refine g_then_exit ?_ | refine g_in_exit rfl ?_ | refine g_in_exit_ne (by decide) ?_ | refine g_seq ?_ | refine g_region ?_ | refine g_block ?_ | refine g_ret ?_ | refine g_return_n ?_ | refine g_exit ?_ | refine g_skip ?_)
      first | refine o_load1 rfl rfl ?_ | refine o_loadE0 rfl (by assumption) rfl ?_ | refine o_loadE1 rfl (by assumption) rfl ?_
      refine o_len rfl rfl ?_
      refine o_gtr rfl rfl ?_
      first | refine g_endt ?_ | refine g_end ?_
      cases todo with
      | nil =>
        first | refine g_seq (g_cond_f rfl (by first | rfl | (simp; done) | (simp; omega) | (simp; assumption)) ?_) | refine g_cond_f rfl (by first | rfl | (simp; done) | (simp; omega) | (simp; assumption)) ?_
        repeat (first | refine g_endt ?_ | refine g_end ?_ | refine g_then ?_ | refine g_in_normal ?_ | refine g_then_ret ?_ | refine g_in_ret ?_ | refine g_then_exit ?_ | refine g_in_exit rfl ?_ | refine g_in_exit_ne (by decide) ?_ | refine g_seq ?_ | refine g_region ?_ | refine g_block ?_ | refine g_ret ?_ | refine g_return_n ?_ | refine g_exit ?_ | refine g_skip ?_)
        refine o_add (c := ((i + 1 : Nat) : Int)) rfl rfl (by omega) (by omega) (by omega) ?_
        refine o_move ?_
        first | refine g_endt ?_ | refine g_end ?_
        repeat (first | refine g_endt ?_ | refine g_end ?_ | refine g_then ?_ | refine g_in_normal ?_ | refine g_then_ret ?_ | refine g_in_ret ?_ | refine g_then_exit ?_ | refine g_in_exit rfl ?_ | refine g_in_exit_ne (by decide) ?_ | refine g_seq ?_ | refine g_region ?_ | refine g_block ?_ | refine g_ret ?_ | refine g_return_n ?_ | refine g_exit ?_ | refine g_skip ?_)
        exact g_meetsD (⟨(i + 1, ys, f), hR.done h⟩) (by first | exact trivial | (dsimp only; omega)) (Sat.mem (by repeat (first | exact trivial | refine And.intro rfl ?_)))
      | cons s rest =>
        obtain ⟨hk0, hP⟩ := hR.pop
        first | refine g_seq (g_cond_t rfl (by first | (simp; done) | (simp; omega)) ?_) | refine g_cond_t rfl (by first | (simp; done) | (simp; omega)) ?_
        refine openW w xs fun yw hw => ?_
        have hyw := hw.len
        have hvl := vals_len xs s
        cases hgm : getM PgSY.cmp yw ⟨s, none⟩ with
        | none =>
          have hno : ∀ b, ¬ Hop xs s b := fun b ⟨e, he, hid, _⟩ => by
            have h1 := (hw.has s).2 ⟨e, he, hid⟩
            rw [← getM_isSome, hgm] at h1
            cases h1
          repeat (first | refine g_endt ?_ | refine g_end ?_ | refine g_then ?_ | refine g_in_normal ?_ | refine g_then_ret ?_ | refine g_in_ret ?_ | refine g_then_exit ?_ | refine g_in_exit rfl ?_ | refine g_in_exit_ne (by decide) ?_ | refine g_seq ?_ | refine g_region ?_ | refine g_block ?_ | refine g_ret ?_ | refine g_return_n ?_ | refine g_exit ?_ | refine g_skip ?_)
          refine o_move ?_
          first | refine o_load1 rfl rfl ?_ | refine o_loadE0 rfl (by assumption) rfl ?_ | refine o_loadE1 rfl (by assumption) rfl ?_
          refine o_indexR (ys := s :: rest) (i := 0) rfl rfl rfl (by simp) rfl rfl ?_
          refine o_loadE (ys := s :: rest) (i := 0) rfl rfl rfl ?_
          refine o_call (GetNMSY_spec w yw s hw.srt (by omega) hgm) rfl rfl ?_
          rintro _ _ ⟨rfl, rfl⟩
          refine o_move ?_
          refine o_extract rfl rfl ?_
          refine o_extract rfl rfl ?_
          refine o_assign ?_
          refine o_assign ?_
          first | refine g_endt ?_ | refine g_end ?_
          repeat (first | refine g_endt ?_ | refine g_end ?_ | refine g_then ?_ | refine g_in_normal ?_ | refine g_then_ret ?_ | refine g_in_ret ?_ | refine g_then_exit ?_ | refine g_in_exit rfl ?_ | refine g_in_exit_ne (by decide) ?_ | refine g_seq ?_ | refine g_region ?_ | refine g_block ?_ | refine g_ret ?_ | refine g_return_n ?_ | refine g_exit ?_ | refine g_skip ?_)
          first | refine o_load1 rfl rfl ?_ | refine o_loadE0 rfl (by assumption) rfl ?_ | refine o_loadE1 rfl (by assumption) rfl ?_
          refine o_fromP (k := 1) rfl rfl rfl (by simp) ?_
          refine o_store (v := .slice (offA S e 1 3) rest.length (e - 1)) rfl rfl rfl rfl rfl ?_
          first | refine g_endt ?_ | refine g_end ?_
          refine G.norm r #[.slice (offA S e 1 3) rest.length (e - 1)] rfl ?_
          refine G.qdrop (e := 25) (enc := encS) (sz := 3) (c := e) (S := S) (xs := s :: rest) 1 (by simp) ?_
          change G _ _ (qsl 25 encS 3 (offA S e 1 3) (e - 1) rest :: _) _
          repeat (first | refine g_endt ?_ | refine g_end ?_ | refine g_then ?_ | refine g_in_normal ?_ | refine g_then_ret ?_ | refine g_in_ret ?_ | refine g_then_exit ?_ | refine g_in_exit rfl ?_ | refine g_in_exit_ne (by decide) ?_ | refine g_seq ?_ | refine g_region ?_ | refine g_block ?_ | refine g_ret ?_ | refine g_return_n ?_ | refine g_exit ?_ | refine g_skip ?_)
          refine o_move ?_
          refine o_peql rfl ?_
          first | refine g_endt ?_ | refine g_end ?_
          first | refine g_seq (g_cond_t rfl (by first | rfl | (simp; done) | (simp; omega) | (simp; assumption)) ?_) | refine g_cond_t rfl (by first | rfl | (simp; done) | (simp; omega) | (simp; assumption)) ?_
          refine shutW w xs yw hw ?_
          refine shutR (gs := gs) (xs := xs) r m z i (k - 1) none [] (offA S e 1 3) (e - 1) rest ys f (hP.shut fun b hb => absurd hb (hno b)) rfl rfl ?_
          repeat (first | refine g_endt ?_ | refine g_end ?_ | refine g_then ?_ | refine g_in_normal ?_ | refine g_then_ret ?_ | refine g_in_ret ?_ | refine g_then_exit ?_ | refine g_in_exit rfl ?_ | refine g_in_exit_ne (by decide) ?_ | refine g_seq ?_ | refine g_region ?_ | refine g_block ?_ | refine g_ret ?_ | refine g_return_n ?_ | refine g_exit ?_ | refine g_skip ?_)
          exact g_meetsD ⟨k - 1, by omega⟩ (by show k - 1 < k; omega) (Sat.mem (by repeat (first | exact trivial | refine And.intro rfl ?_)))
        | some p =>
          obtain ⟨b, zs, rfl, hperm, hne⟩ := hw.get hgm
          repeat (first | refine g_endt ?_ | refine g_end ?_ | refine g_then ?_ | refine g_in_normal ?_ | refine g_then_ret ?_ | refine g_in_ret ?_ | refine g_then_exit ?_ | refine g_in_exit rfl ?_ | refine g_in_exit_ne (by decide) ?_ | refine g_seq ?_ | refine g_region ?_ | refine g_block ?_ | refine g_ret ?_ | refine g_return_n ?_ | refine g_exit ?_ | refine g_skip ?_)
          refine o_move ?_
          first | refine o_load1 rfl rfl ?_ | refine o_loadE0 rfl (by assumption) rfl ?_ | refine o_loadE1 rfl (by assumption) rfl ?_
          refine o_indexR (ys := s :: rest) (i := 0) rfl rfl rfl (by simp) rfl rfl ?_
          refine o_loadE (ys := s :: rest) (i := 0) rfl rfl rfl ?_
          refine o_call (GetNMSY_spec w yw s hw.srt (by omega) hgm) rfl rfl ?_
          rintro _ _ ⟨rfl, rfl⟩
          refine o_move ?_
          refine o_extract rfl rfl ?_
          refine o_extract rfl rfl ?_
          refine o_assign ?_
          refine o_assign ?_
          first | refine g_endt ?_ | refine g_end ?_
          repeat (first | refine g_endt ?_ | refine g_end ?_ | refine g_then ?_ | refine g_in_normal ?_ | refine g_then_ret ?_ | refine g_in_ret ?_ | refine g_then_exit ?_ | refine g_in_exit rfl ?_ | refine g_in_exit_ne (by decide) ?_ | refine g_seq ?_ | refine g_region ?_ | refine g_block ?_ | refine g_ret ?_ | refine g_return_n ?_ | refine g_exit ?_ | refine g_skip ?_)
          first | refine o_load1 rfl rfl ?_ | refine o_loadE0 rfl (by assumption) rfl ?_ | refine o_loadE1 rfl (by assumption) rfl ?_
          refine o_fromP (k := 1) rfl rfl rfl (by simp) ?_
          refine o_store (v := .slice (offA S e 1 3) rest.length (e - 1)) rfl rfl rfl rfl rfl ?_
          first | refine g_endt ?_ | refine g_end ?_
          refine G.norm r #[.slice (offA S e 1 3) rest.length (e - 1)] rfl ?_
          refine G.qdrop (e := 25) (enc := encS) (sz := 3) (c := e) (S := S) (xs := s :: rest) 1 (by simp) ?_
          change G _ _ (qsl 25 encS 3 (offA S e 1 3) (e - 1) rest :: _) _
          repeat (first | refine g_endt ?_ | refine g_end ?_ | refine g_then ?_ | refine g_in_normal ?_ | refine g_then_ret ?_ | refine g_in_ret ?_ | refine g_then_exit ?_ | refine g_in_exit rfl ?_ | refine g_in_exit_ne (by decide) ?_ | refine g_seq ?_ | refine g_region ?_ | refine g_block ?_ | refine g_ret ?_ | refine g_return_n ?_ | refine g_exit ?_ | refine g_skip ?_)
          refine o_move ?_
          refine o_peql rfl ?_
          first | refine g_endt ?_ | refine g_end ?_
          first | refine g_seq (g_cond_f rfl (by first | rfl | (simp; done) | (simp; omega) | (simp; assumption)) ?_) | refine g_cond_f rfl (by first | rfl | (simp; done) | (simp; omega) | (simp; assumption)) ?_
          refine G.bopen (f := cellW xs) ⟨s, some b⟩ zs hperm ?_
          change G _ _ (SetASS b (vals xs s) :: _) _
          refine shutR (gs := gs) (xs := xs) r m z i (k - 1) (some s) [] (offA S e 1 3) (e - 1) rest ys f hP rfl rfl ?_
          repeat (first | refine g_endt ?_ | refine g_end ?_ | refine g_then ?_ | refine g_in_normal ?_ | refine g_then_ret ?_ | refine g_in_ret ?_ | refine g_then_exit ?_ | refine g_in_exit rfl ?_ | refine g_in_exit_ne (by decide) ?_ | refine g_seq ?_ | refine g_region ?_ | refine g_block ?_ | refine g_ret ?_ | refine g_return_n ?_ | refine g_exit ?_ | refine g_skip ?_)
          refine o_move ?_
          refine o_call (AllSS_spec b) rfl rfl ?_
          rintro _ _ ⟨bb, rfl, rfl⟩
          first | refine g_endt ?_ | refine g_end ?_
          repeat (first | refine g_endt ?_ | refine g_end ?_ | refine g_then ?_ | refine g_in_normal ?_ | refine g_then_ret ?_ | refine g_in_ret ?_ | refine g_then_exit ?_ | refine g_in_exit rfl ?_ | refine g_in_exit_ne (by decide) ?_ | refine g_seq ?_ | refine g_region ?_ | refine g_block ?_ | refine g_ret ?_ | refine g_return_n ?_ | refine g_exit ?_ | refine g_skip ?_)
          refine g_range (ps := [82]) (lb := [.pointer (some ⟨bb, 0, none⟩)]) (enc := SymD.enc') (xs := vals xs s) rfl
            (fun pre => RunP gs xs r m z i (k - 1) (some s) pre :: SetASS b (vals xs s) :: pblk bb (.cells #[.pointer (some ⟨b, 0, none⟩)] 76 (0, 0)) :: bigS zs (cellW xs) :: MapASY w yw :: cellsB c12 #[.int .i64 (i : Int)] 3 :: cellsB c5 #[.pointer (some ⟨m, 0, none⟩)] 61 :: cellsB c11 #[.pointer (some ⟨z, 0, none⟩)] 76 :: psl encS 3 A gs :: Ks)
            (fun _ _ => [pu False]) (fun K => All1SS_iter b bb (vals xs s) (by omega) _) (fun _ => rfl)
            (tk := (inferInstance : Take _ (RunP gs xs r m z i (k - 1) (some s) [] :: SetASS b (vals xs s) :: pblk bb (.cells #[.pointer (some ⟨b, 0, none⟩)] 76 (0, 0)) :: bigS zs (cellW xs) :: MapASY w yw :: cellsB c12 #[.int .i64 (i : Int)] 3 :: cellsB c5 #[.pointer (some ⟨m, 0, none⟩)] 61 :: cellsB c11 #[.pointer (some ⟨z, 0, none⟩)] 76 :: psl encS 3 A gs :: Ks) _)) ?_ ?_ ?_
          · clear hys hmu hR hP
            intro w0 F l rr pre v hp
            have hv : v ∈ vals xs s := hp.subset (by simp)
            have hop : v.kind = 1 → Hop xs s v := fun hk => by
              obtain ⟨el, he, h1, h2⟩ := (vals_mem xs s v).1 hv
              exact ⟨el, he, h1, h2, hk⟩
            repeat (first | refine g_endt ?_ | refine g_end ?_ | refine g_then ?_ | refine g_in_normal ?_ | refine g_then_ret ?_ | refine g_in_ret ?_ | refine g_then_exit ?_ | refine g_in_exit rfl ?_ | refine g_in_exit_ne (by decide) ?_ | refine g_seq ?_ | refine g_region ?_ | refine g_block ?_ | refine g_ret ?_ | refine g_return_n ?_ | refine g_exit ?_ | refine g_skip ?_)
            refine o_alloc fun c19 => ?_
            refine o_store (v := v.val) rfl rfl rfl rfl rfl ?_
            first | refine g_endt ?_ | refine g_end ?_
            refine G.norm c19 v.val.cells rfl ?_
            repeat (first | refine g_endt ?_ | refine g_end ?_ | refine g_then ?_ | refine g_in_normal ?_ | refine g_then_ret ?_ | refine g_in_ret ?_ | refine g_then_exit ?_ | refine g_in_exit rfl ?_ | refine g_in_exit_ne (by decide) ?_ | refine g_seq ?_ | refine g_region ?_ | refine g_block ?_ | refine g_ret ?_ | refine g_return_n ?_ | refine g_exit ?_ | refine g_skip ?_)
            refine g_begin ?_
            refine openR (gs := gs) (xs := xs) r m z i (k - 1) (some s) pre fun S2 e2 todo ys f hR => ?_
            have hys := hR.len
            have hmu := hR.mu
            have hks : Srt SymD.cmp (ys.map PgSI.k) := PgSI.srt_keys.1 hR.tab.srt
            have hkey := hR.tab.has_keys v
            by_cases hk1 : v.kind = 1
            · by_cases hf : f v = 0
              · skip
                repeat (first | refine g_endt ?_ | refine g_end ?_ | refine g_then ?_ | refine g_in_normal ?_ | refine g_then_ret ?_ | refine g_in_ret ?_ | refine g_then_exit ?_ | refine g_in_exit rfl ?_ | refine g_in_exit_ne (by decide) ?_ | refine g_seq ?_ | refine g_region ?_ | refine g_block ?_ | refine g_ret ?_ | refine g_return_n ?_ | refine g_exit ?_ | refine g_skip ?_)
                first | refine o_field rfl ?_ | refine o_fieldR rfl (by omega) ?_
                refine o_load1 (v := .int .i64 v.kind) rfl rfl ?_
                refine o_eql rfl rfl ?_
                rw [show (v.kind == 1) = true from by simpa using hk1]
                refine o_move ?_
                refine o_want rfl rfl rfl rfl rfl (o_load1 (v := .pointer (some ⟨z, 0, none⟩)) rfl rfl ?_)
                refine o_want rfl rfl rfl rfl rfl (o_loadN (v := v.val) rfl rfl rfl ?_)
                refine o_want rfl rfl rfl rfl rfl (o_call (PutCSS_spec z (ys.map PgSI.k) v hks (by simp; omega)) rfl rfl ?_)
                rintro _ _ ⟨rfl, rfl⟩
                first | refine o_pick_t rfl rfl ?_ | refine o_pick_f rfl rfl ?_
                first | refine g_endt ?_ | refine g_end ?_
                first | refine g_seq (g_cond_t rfl (by rw [hkey]; simp [hf]) ?_) | refine g_cond_t rfl (by rw [hkey]; simp [hf]) ?_
                repeat (first | refine g_endt ?_ | refine g_end ?_ | refine g_then ?_ | refine g_in_normal ?_ | refine g_then_ret ?_ | refine g_in_ret ?_ | refine g_then_exit ?_ | refine g_in_exit rfl ?_ | refine g_in_exit_ne (by decide) ?_ | refine g_seq ?_ | refine g_region ?_ | refine g_block ?_ | refine g_ret ?_ | refine g_return_n ?_ | refine g_exit ?_ | refine g_skip ?_)
                refine o_load1 (v := .pointer (some ⟨m, 0, none⟩)) rfl rfl ?_
                refine o_loadN (v := v.val) rfl rfl rfl ?_
                refine o_load1 (v := .int .i64 (i : Int)) rfl rfl ?_
                refine o_add (c := (i : Int) + 1) rfl rfl rfl (by omega) (by omega) ?_
                refine o_call (PutNMSI_spec m ys v ((i : Int) + 1) hR.tab.srt (by omega) (hasC_no hR.tab _ hf)) rfl rfl ?_
                rintro _ _ ⟨rfl, rfl⟩
                first | refine g_endt ?_ | refine g_end ?_
                repeat (first | refine g_endt ?_ | refine g_end ?_ | refine g_then ?_ | refine g_in_normal ?_ | refine g_then_ret ?_ | refine g_in_ret ?_ | refine g_then_exit ?_ | refine g_in_exit rfl ?_ | refine g_in_exit_ne (by decide) ?_ | refine g_seq ?_ | refine g_region ?_ | refine g_block ?_ | refine g_ret ?_ | refine g_return_n ?_ | refine g_exit ?_ | refine g_skip ?_)
                first | refine o_load1 rfl rfl ?_ | refine o_loadE0 rfl (by assumption) rfl ?_ | refine o_loadE1 rfl (by assumption) rfl ?_
                refine o_loadN (v := v.val) rfl rfl rfl ?_
                refine o_litP (e := 25) encS [v] (v).val.cells (fun w => by kernel_rfl) (by simp [encS]) (by simp [maxLen]) fun _ => ?_
                refine o_appendq (xs := todo) (ys := [v]) rfl rfl rfl rfl rfl (by decide) (by simp [maxLen]; omega) (by simp; omega) fun S3 e3 => ?_
                refine o_store (v := .slice S3 (todo.length + 1) e3) rfl rfl rfl rfl rfl ?_
                first | refine g_endt ?_ | refine g_end ?_
                refine G.norm r #[.slice S3 (todo.length + 1) e3] rfl ?_
                refine shutR (gs := gs) (xs := xs) r m z i (k - 1) (some s) (pre ++ [v]) S3 e3 (todo ++ [v]) (insC PgSI.cmp ys ⟨v, (i : Int) + 1⟩) (updF f v ((i : Int) + 1)) (hR.add hx (hop hk1) hf) (n := todo.length + 1) (by simp) (insC_keys ys v ((i : Int) + 1)).symm ?_
                repeat (first | refine g_endt ?_ | refine g_end ?_ | refine g_then ?_ | refine g_in_normal ?_ | refine g_then_ret ?_ | refine g_in_ret ?_ | refine g_then_exit ?_ | refine g_in_exit rfl ?_ | refine g_in_exit_ne (by decide) ?_ | refine g_seq ?_ | refine g_region ?_ | refine g_block ?_ | refine g_ret ?_ | refine g_return_n ?_ | refine g_exit ?_ | refine g_skip ?_)
                exact g_next
              · skip
                repeat (first | refine g_endt ?_ | refine g_end ?_ | refine g_then ?_ | refine g_in_normal ?_ | refine g_then_ret ?_ | refine g_in_ret ?_ | refine g_then_exit ?_ | refine g_in_exit rfl ?_ | refine g_in_exit_ne (by decide) ?_ | refine g_seq ?_ | refine g_region ?_ | refine g_block ?_ | refine g_ret ?_ | refine g_return_n ?_ | refine g_exit ?_ | refine g_skip ?_)
                first | refine o_field rfl ?_ | refine o_fieldR rfl (by omega) ?_
                refine o_load1 (v := .int .i64 v.kind) rfl rfl ?_
                refine o_eql rfl rfl ?_
                rw [show (v.kind == 1) = true from by simpa using hk1]
                refine o_move ?_
                refine o_want rfl rfl rfl rfl rfl (o_load1 (v := .pointer (some ⟨z, 0, none⟩)) rfl rfl ?_)
                refine o_want rfl rfl rfl rfl rfl (o_loadN (v := v.val) rfl rfl rfl ?_)
                refine o_want rfl rfl rfl rfl rfl (o_call (PutCSS_spec z (ys.map PgSI.k) v hks (by simp; omega)) rfl rfl ?_)
                rintro _ _ ⟨rfl, rfl⟩
                first | refine o_pick_t rfl rfl ?_ | refine o_pick_f rfl rfl ?_
                first | refine g_endt ?_ | refine g_end ?_
                first | refine g_seq (g_cond_f rfl (by rw [hkey]; simp [hf]) ?_) | refine g_cond_f rfl (by rw [hkey]; simp [hf]) ?_
                rw [insC_old (by rw [hkey]; simpa using hf)]
                refine shutR (gs := gs) (xs := xs) r m z i (k - 1) (some s) (pre ++ [v]) S2 e2 todo ys f (hR.next fun _ => hf) rfl rfl ?_
                repeat (first | refine g_endt ?_ | refine g_end ?_ | refine g_then ?_ | refine g_in_normal ?_ | refine g_then_ret ?_ | refine g_in_ret ?_ | refine g_then_exit ?_ | refine g_in_exit rfl ?_ | refine g_in_exit_ne (by decide) ?_ | refine g_seq ?_ | refine g_region ?_ | refine g_block ?_ | refine g_ret ?_ | refine g_return_n ?_ | refine g_exit ?_ | refine g_skip ?_)
                exact g_next
            · skip
              repeat (first | refine g_endt ?_ | refine g_end ?_ | refine g_then ?_ | refine g_in_normal ?_ | refine g_then_ret ?_ | refine g_in_ret ?_ | refine g_then_exit ?_ | refine g_in_exit rfl ?_ | refine g_in_exit_ne (by decide) ?_ | refine g_seq ?_ | refine g_region ?_ | refine g_block ?_ | refine g_ret ?_ | refine g_return_n ?_ | refine g_exit ?_ | refine g_skip ?_)
              first | refine o_field rfl ?_ | refine o_fieldR rfl (by omega) ?_
              refine o_load1 (v := .int .i64 v.kind) rfl rfl ?_
              refine o_eql rfl rfl ?_
              rw [show (v.kind == 1) = false from by simpa using hk1]
              refine o_move ?_
              first | (refine o_want rfl rfl rfl rfl rfl ?_; (first | refine o_load1 rfl rfl ?_ | refine o_loadE0 rfl (by assumption) rfl ?_ | refine o_loadE1 rfl (by assumption) rfl ?_)) | refine o_unwanted rfl rfl rfl rfl rfl ?_ | refine o_undef rfl rfl rfl ?_
              first | (refine o_want rfl rfl rfl rfl rfl ?_; (first | refine o_loadN rfl rfl rfl ?_ | refine o_loadE rfl rfl (by assumption) ?_ | refine o_loadEN rfl (by assumption) rfl rfl ?_)) | refine o_unwanted rfl rfl rfl rfl rfl ?_ | refine o_undef rfl rfl rfl ?_
              first | refine o_unwanted rfl rfl rfl rfl rfl ?_ | refine o_undef rfl rfl rfl ?_
              first | refine o_pick_t rfl rfl ?_ | refine o_pick_f rfl rfl ?_
              first | refine g_endt ?_ | refine g_end ?_
              first | refine g_seq (g_cond_f rfl (by first | rfl | (simp; done) | (simp; omega) | (simp; assumption)) ?_) | refine g_cond_f rfl (by first | rfl | (simp; done) | (simp; omega) | (simp; assumption)) ?_
              refine shutR (gs := gs) (xs := xs) r m z i (k - 1) (some s) (pre ++ [v]) S2 e2 todo ys f (hR.next fun e => absurd e hk1) rfl rfl ?_
              repeat (first | refine g_endt ?_ | refine g_end ?_ | refine g_then ?_ | refine g_in_normal ?_ | refine g_then_ret ?_ | refine g_in_ret ?_ | refine g_then_exit ?_ | refine g_in_exit rfl ?_ | refine g_in_exit_ne (by decide) ?_ | refine g_seq ?_ | refine g_region ?_ | refine g_block ?_ | refine g_ret ?_ | refine g_return_n ?_ | refine g_exit ?_ | refine g_skip ?_)
              exact g_next
          · clear hys hmu hR hP
            intro D
            refine openR (gs := gs) (xs := xs) r m z i (k - 1) (some s) (vals xs s) fun S2 e2 todo ys f hR => ?_
            refine shutR (gs := gs) (xs := xs) r m z i (k - 1) none [] S2 e2 todo ys f (hR.shut fun b ⟨el, he, h1, h2, _⟩ => (vals_mem xs s b).2 ⟨el, he, h1, h2⟩) rfl rfl ?_
            refine G.bshut yw (cellW xs) ⟨s, some b⟩ zs hperm.symm (tk := (inferInstance : Take _ [SetASS b (vals xs s), bigS zs (cellW xs)] _)) ?_
            refine shutW w xs yw hw ?_
            repeat (first | refine g_endt ?_ | refine g_end ?_ | refine g_then ?_ | refine g_in_normal ?_ | refine g_then_ret ?_ | refine g_in_ret ?_ | refine g_then_exit ?_ | refine g_in_exit rfl ?_ | refine g_in_exit_ne (by decide) ?_ | refine g_seq ?_ | refine g_region ?_ | refine g_block ?_ | refine g_ret ?_ | refine g_return_n ?_ | refine g_exit ?_ | refine g_skip ?_)
            exact g_meetsD ⟨k - 1, by omega⟩ (by show k - 1 < k; omega) (Sat.mem (by repeat (first | exact trivial | refine And.intro rfl ?_)))
          · intro D c pre hp
            exact G.pu fun h => h.elim
    · first | refine g_seq (g_cond_t rfl (by simpa using hf) ?_) | refine g_cond_t rfl (by simpa using hf) ?_
      repeat (first | refine g_endt ?_ | refine g_end ?_ | refine g_then ?_ | refine g_in_normal ?_ | refine g_then_ret ?_ | refine g_in_ret ?_ | refine g_then_exit ?_ | refine g_in_exit rfl ?_ | refine g_in_exit_ne (by decide) ?_ | refine g_seq ?_ | refine g_region ?_ | refine g_block ?_ | refine g_ret ?_ | refine g_return_n ?_ | refine g_exit ?_ | refine g_skip ?_)
      refine o_add (c := ((i + 1 : Nat) : Int)) rfl rfl (by omega) (by omega) (by omega) ?_
      refine o_move ?_
      first | refine g_endt ?_ | refine g_end ?_
      repeat (first | refine g_endt ?_ | refine g_end ?_ | refine g_then ?_ | refine g_in_normal ?_ | refine g_then_ret ?_ | refine g_in_ret ?_ | refine g_then_exit ?_ | refine g_in_exit rfl ?_ | refine g_in_exit_ne (by decide) ?_ | refine g_seq ?_ | refine g_region ?_ | refine g_block ?_ | refine g_ret ?_ | refine g_return_n ?_ | refine g_exit ?_ | refine g_skip ?_)
      exact g_meetsD (⟨(i + 1, ys, f), hI.skip hx h hf⟩) (by first | exact trivial | (dsimp only; omega)) (Sat.mem (by repeat (first | exact trivial | refine And.intro rfl ?_)))
  · first | refine g_seq (g_cond_f rfl (by simp; omega) ?_) | refine g_cond_f rfl (by simp; omega) ?_
    have hin : i = gs.length := by have := hI.le; omega
    subst hin
    have he := hI.st.all
    have htab : TabP ys (rlev gs xs) := ⟨hI.tab.srt, hI.tab.nz, fun s => by rw [hI.tab.all s, he s]⟩
    repeat (first | refine g_endt ?_ | refine g_end ?_ | refine g_then ?_ | refine g_in_normal ?_ | refine g_then_ret ?_ | refine g_in_ret ?_ | refine g_then_exit ?_ | refine g_in_exit rfl ?_ | refine g_in_exit_ne (by decide) ?_ | refine g_seq ?_ | refine g_region ?_ | refine g_block ?_ | refine g_ret ?_ | refine g_return_n ?_ | refine g_exit ?_ | refine g_skip ?_)
    refine o_load1 (v := .pointer (some ⟨m, 0, none⟩)) rfl rfl ?_
    refine o_assign ?_
    first | refine g_endt ?_ | refine g_end ?_
    repeat (first | refine g_endt ?_ | refine g_end ?_ | refine g_then ?_ | refine g_in_normal ?_ | refine g_then_ret ?_ | refine g_in_ret ?_ | refine g_then_exit ?_ | refine g_in_exit rfl ?_ | refine g_in_exit_ne (by decide) ?_ | refine g_seq ?_ | refine g_region ?_ | refine g_block ?_ | refine g_ret ?_ | refine g_return_n ?_ | refine g_exit ?_ | refine g_skip ?_)
    exact ret1 (K := MapASI m ys :: psl encS 3 A gs :: Ks) rfl (resT rfl) ⟨m, ys, rfl, htab, by omega, rfl⟩
end Go.Proofs.Ytfhkhghjlhohdaa
/- The level of one symbol; the elements whose Id has a level. -/
namespace Go.Proofs.Ytfhkhghjlhohdaa
open Go Go.Sl
attribute [local irreducible] Code.wpIn roundPost bodyPostM runL Ret Meets Begin

set_option maxHeartbeats 1000000 in
theorem LevelR_spec (A : Option Addr) (n c : Nat) (gs : List SymD) (hg : gs.length = n) (hn : n ≤ 10000) (gf : FuncId) (lb : List Value) (xs : List ElemD) (hl : xs.length ≤ 10000) (Ks : List SProp) [En Try.prog gf] (hit : ∀ K, Iter Try.prog gf lb encVE xs (K ++ Ks)) (s : SymD) :
    Ctr Try.prog 12 [.slice A n c, .func (.func gf) #[] lb.toArray, s.val] (psl encS 3 A gs :: Ks) (fun v M => v = .int .i64 (rlev gs xs s) ∧ M = psl encS 3 A gs :: Ks) := by
  refine spec_of Try.func12 rfl Try.ntmps12 rfl fun w0 F => ?_
  -- ponder/reach.Level
  repeat (first | refine g_endt ?_ | refine g_end ?_ | refine g_then ?_ | refine g_in_normal ?_ | refine g_then_ret ?_ | refine g_in_ret ?_ | refine g_then_exit ?_ | refine g_in_exit rfl ?_ | refine g_in_exit_ne (by decide) ?_ | refine g_seq ?_ | refine g_region ?_ | refine g_block ?_ | refine g_ret ?_ | refine g_return_n ?_ | refine g_exit ?_ | refine g_skip ?_)
  refine o_boxc s.val.cells rfl rfl fun q => ?_
  refine o_assign ?_
  first | refine g_endt ?_ | refine g_end ?_
  repeat (first | refine g_endt ?_ | refine g_end ?_ | refine g_then ?_ | refine g_in_normal ?_ | refine g_then_ret ?_ | refine g_in_ret ?_ | refine g_then_exit ?_ | refine g_in_exit rfl ?_ | refine g_in_exit_ne (by decide) ?_ | refine g_seq ?_ | refine g_region ?_ | refine g_block ?_ | refine g_ret ?_ | refine g_return_n ?_ | refine g_exit ?_ | refine g_skip ?_)
  refine g_draw [2,4] [0,1,3,2,4,5,6,7,8,9] [cellsB q s.val.cells 25] mixed rfl ?_
  refine ob_q rfl rfl ⟨_, fun X Q h => o_move (g_end (h _ _ ⟨rfl, rfl⟩)), ?_⟩
  refine ob_q rfl rfl ⟨_, fun X Q h => o_move (g_end (h _ _ ⟨rfl, rfl⟩)), ?_⟩
  refine ob_q rfl rfl ⟨_, fun X Q h => o_loadN (v := s.val) rfl rfl rfl (g_end (h _ _ ⟨rfl, rfl⟩)), ?_⟩
  refine ob_l rfl rfl fun Qz hz => o_call (Levels_spec A n c gs hg hn gf lb xs hl Ks hit) rfl rfl ?_
  rintro _ _ ⟨m, ys, rfl, htab, hlen, rfl⟩
  refine g_end (hz _ _ ⟨_, ob_fin, ?_⟩)
  clear hz Qz
  refine ob_l rfl rfl fun Qz hz => o_call (GetLv_spec m ys (rlev gs xs) s htab (by omega)) rfl rfl ?_
  rintro _ _ ⟨rfl, rfl⟩
  refine g_end (hz _ _ ⟨_, ob_fin, ?_⟩)
  clear hz Qz
  refine ob_q rfl rfl ⟨_, fun X Q h => o_move (g_end (h _ _ ⟨rfl, rfl⟩)), ?_⟩
  refine ob_q rfl rfl ⟨_, fun X Q h => o_extract rfl rfl (g_end (h _ _ ⟨rfl, rfl⟩)), ?_⟩
  refine ob_q rfl rfl ⟨_, fun X Q h => o_extract rfl rfl (g_end (h _ _ ⟨rfl, rfl⟩)), ?_⟩
  refine ob_q rfl rfl ⟨_, fun X Q h => o_assign (g_end (h _ _ ⟨rfl, rfl⟩)), ?_⟩
  refine ob_q rfl rfl ⟨_, fun X Q h => o_assign (g_end (h _ _ ⟨rfl, rfl⟩)), ?_⟩
  refine ob_nil ?_
  repeat (first | refine g_endt ?_ | refine g_end ?_ | refine g_then ?_ | refine g_in_normal ?_ | refine g_then_ret ?_ | refine g_in_ret ?_ | refine g_then_exit ?_ | refine g_in_exit rfl ?_ | refine g_in_exit_ne (by decide) ?_ | refine g_seq ?_ | refine g_region ?_ | refine g_block ?_ | refine g_ret ?_ | refine g_return_n ?_ | refine g_exit ?_ | refine g_skip ?_)
  refine o_move ?_
  refine o_assign ?_
  first | refine g_endt ?_ | refine g_end ?_
  repeat (first | refine g_endt ?_ | refine g_end ?_ | refine g_then ?_ | refine g_in_normal ?_ | refine g_then_ret ?_ | refine g_in_ret ?_ | refine g_then_exit ?_ | refine g_in_exit rfl ?_ | refine g_in_exit_ne (by decide) ?_ | refine g_seq ?_ | refine g_region ?_ | refine g_block ?_ | refine g_ret ?_ | refine g_return_n ?_ | refine g_exit ?_ | refine g_skip ?_)
  exact ret1 (K := psl encS 3 A gs :: Ks) rfl (resT (v := .int .i64 (rlev gs xs s)) rfl) ⟨rfl, rfl⟩
/-- The elements whose Id has a level. -/
noncomputable def lvF (gs : List SymD) (xs pre : List ElemD) : List ElemD := pre.filter fun e => decide (rlev gs xs e.id ≠ 0)
noncomputable def liveF (gs : List SymD) (xs : List ElemD) : List ElemD := lvF gs xs xs
theorem lvF_yes {gs : List SymD} {xs pre : List ElemD} {x : ElemD} (h : rlev gs xs x.id ≠ 0) : lvF gs xs (pre ++ [x]) = lvF gs xs pre ++ [x] := by
  unfold lvF; rw [List.filter_append]; simp [h]
theorem lvF_no {gs : List SymD} {xs pre : List ElemD} {x : ElemD} (h : rlev gs xs x.id = 0) : lvF gs xs (pre ++ [x]) = lvF gs xs pre := by
  unfold lvF; rw [List.filter_append]; simp [h]
theorem lvF_pre {gs : List SymD} {xs pre : List ElemD} (h : pre <+: xs) : lvF gs xs pre <+: liveF gs xs := h.filter _
theorem Live_spec (A : Option Addr) (n c : Nat) (gs : List SymD) (hg : gs.length = n) (hn : n ≤ 10000) (gf : FuncId) (lb : List Value) :
    Ctr Try.prog 24 [.slice A n c, .func (.func gf) #[] lb.toArray] [psl encS 3 A gs]
      (fun v M => ∃ b3 b5 S e, v = .func (.func 39) #[] #[.pointer (some ⟨b3, 0, none⟩), .pointer (some ⟨b5, 0, none⟩)] ∧
        M = [pblk b3 (.cells #[.func (.func gf) #[] lb.toArray] 32 (0, 0)), pblk b5 (.cells #[.slice S n e] 22 (0, 0)), psl encS 3 S gs]) := by
  refine spec_of Try.func24 rfl Try.ntmps24 rfl fun w0 F => ?_
  -- ponder/reach.Live
  repeat (first | refine g_endt ?_ | refine g_end ?_ | refine g_then ?_ | refine g_in_normal ?_ | refine g_then_ret ?_ | refine g_in_ret ?_ | refine g_then_exit ?_ | refine g_in_exit rfl ?_ | refine g_in_exit_ne (by decide) ?_ | refine g_seq ?_ | refine g_region ?_ | refine g_block ?_ | refine g_ret ?_ | refine g_return_n ?_ | refine g_exit ?_ | refine g_skip ?_)
  refine o_boxc #[.func (.func gf) #[] lb.toArray] rfl rfl fun b3 => ?_
  refine o_assign ?_
  first | refine g_endt ?_ | refine g_end ?_
  refine G.freeze ?_
  refine G.nil_slice 25 encS 3 ?_
  repeat (first | refine g_endt ?_ | refine g_end ?_ | refine g_then ?_ | refine g_in_normal ?_ | refine g_then_ret ?_ | refine g_in_ret ?_ | refine g_then_exit ?_ | refine g_in_exit rfl ?_ | refine g_in_exit_ne (by decide) ?_ | refine g_seq ?_ | refine g_region ?_ | refine g_block ?_ | refine g_ret ?_ | refine g_return_n ?_ | refine g_exit ?_ | refine g_skip ?_)
  refine o_move ?_
  refine o_append (xs := []) (ys := gs) rfl rfl rfl rfl hg (fun _ => .inr trivial) (by simp [maxLen]; omega) (by simp; omega) fun S e => ?_
  refine o_alloc fun b5 => ?_
  refine o_store (v := .slice S (0 + gs.length) e) rfl rfl rfl rfl rfl ?_
  first | refine g_endt ?_ | refine g_end ?_
  refine G.norm b5 #[.slice S n e] (by rw [← hg, Nat.zero_add]; rfl) ?_
  rw [List.nil_append]
  refine G.bring [osl 25 encS 3 S e gs] ?_
  refine G.frz ?_
  refine G.bring [cellsB b5 #[.slice S n e] 22] ?_
  refine G.freeze ?_
  change G _ _ [pblk b5 (.cells #[.slice S n e] 22 (0, 0)), psl encS 3 S gs, pblk b3 (.cells #[.func (.func gf) #[] lb.toArray] 32 (0, 0)), psl encS 3 A gs] _
  repeat (first | refine g_endt ?_ | refine g_end ?_ | refine g_then ?_ | refine g_in_normal ?_ | refine g_then_ret ?_ | refine g_in_ret ?_ | refine g_then_exit ?_ | refine g_in_exit rfl ?_ | refine g_in_exit_ne (by decide) ?_ | refine g_seq ?_ | refine g_region ?_ | refine g_block ?_ | refine g_ret ?_ | refine g_return_n ?_ | refine g_exit ?_ | refine g_skip ?_)
  refine o_func ?_
  refine o_assign ?_
  first | refine g_endt ?_ | refine g_end ?_
  repeat (first | refine g_endt ?_ | refine g_end ?_ | refine g_then ?_ | refine g_in_normal ?_ | refine g_then_ret ?_ | refine g_in_ret ?_ | refine g_then_exit ?_ | refine g_in_exit rfl ?_ | refine g_in_exit_ne (by decide) ?_ | refine g_seq ?_ | refine g_region ?_ | refine g_block ?_ | refine g_ret ?_ | refine g_return_n ?_ | refine g_exit ?_ | refine g_skip ?_)
  exact ret1 (K := [pblk b3 (.cells #[.func (.func gf) #[] lb.toArray] 32 (0, 0)), pblk b5 (.cells #[.slice S n e] 22 (0, 0)), psl encS 3 S gs]) rfl (resT rfl) ⟨b3, b5, S, e, rfl, rfl⟩
set_option maxHeartbeats 2000000 in
theorem Live1_iter (b3 b5 : Nat) (S : Option Addr) (n e : Nat) (gs : List SymD) (hg : gs.length = n) (hn : n ≤ 10000) (gf : FuncId) (lb : List Value) (xs : List ElemD) (hl : xs.length ≤ 10000) (Ks : List SProp) [En Try.prog gf] (hit : ∀ K, Iter Try.prog gf lb encVE xs (K ++ Ks)) (J0 : List SProp)
    (hJ0 : Ent (sl J0) (star (sl (pblk b3 (.cells #[.func (.func gf) #[] lb.toArray] 32 (0, 0)) :: pblk b5 (.cells #[.slice S n e] 22 (0, 0)) :: psl encS 3 S gs :: Ks)) (sl J0))) :
    Iter Try.prog 39 [.pointer (some ⟨b3, 0, none⟩), .pointer (some ⟨b5, 0, none⟩)] encVE (liveF gs xs) J0 := by
  intro l J Jx hJ hy
  subst hJ
  refine spec_of Try.func39 rfl Try.ntmps39 rfl fun w0 F => ?_
  refine G.ent (L' := (pblk b3 (.cells #[.func (.func gf) #[] lb.toArray] 32 (0, 0)) :: pblk b5 (.cells #[.slice S n e] 22 (0, 0)) :: psl encS 3 S gs :: Ks) ++ J []) (hJ0.trans (sl_append_of _ _)) ?_
  -- ponder/reach.Live$1
  repeat (first | refine g_endt ?_ | refine g_end ?_ | refine g_then ?_ | refine g_in_normal ?_ | refine g_then_ret ?_ | refine g_in_ret ?_ | refine g_then_exit ?_ | refine g_in_exit rfl ?_ | refine g_in_exit_ne (by decide) ?_ | refine g_seq ?_ | refine g_region ?_ | refine g_block ?_ | refine g_ret ?_ | refine g_return_n ?_ | refine g_exit ?_ | refine g_skip ?_)
  refine o_boxc #[.func (.yield l) #[] #[]] rfl rfl fun q => ?_
  first | refine g_endt ?_ | refine g_end ?_
  repeat (first | refine g_endt ?_ | refine g_end ?_ | refine g_then ?_ | refine g_in_normal ?_ | refine g_then_ret ?_ | refine g_in_ret ?_ | refine g_then_exit ?_ | refine g_in_exit rfl ?_ | refine g_in_exit_ne (by decide) ?_ | refine g_seq ?_ | refine g_region ?_ | refine g_block ?_ | refine g_ret ?_ | refine g_return_n ?_ | refine g_exit ?_ | refine g_skip ?_)
  refine o_load1 (v := .func (.func gf) #[] lb.toArray) rfl rfl ?_
  refine o_fnil rfl (fun w => by kernel_rfl) (fun w => by kernel_rfl) ?_
  first | refine g_endt ?_ | refine g_end ?_
  first | refine g_seq (g_cond_f rfl (by first | rfl | (simp; done) | (simp; omega) | (simp; assumption)) ?_) | refine g_cond_f rfl (by first | rfl | (simp; done) | (simp; omega) | (simp; assumption)) ?_
  repeat (first | refine g_endt ?_ | refine g_end ?_ | refine g_then ?_ | refine g_in_normal ?_ | refine g_then_ret ?_ | refine g_in_ret ?_ | refine g_then_exit ?_ | refine g_in_exit rfl ?_ | refine g_in_exit_ne (by decide) ?_ | refine g_seq ?_ | refine g_region ?_ | refine g_block ?_ | refine g_ret ?_ | refine g_return_n ?_ | refine g_exit ?_ | refine g_skip ?_)
  refine o_load1 (v := .slice S n e) rfl rfl ?_
  refine o_load1 (v := .func (.func gf) #[] lb.toArray) rfl rfl ?_
  refine o_call (Levels_spec S n e gs hg hn gf lb xs hl Ks hit) rfl rfl ?_
  rintro _ _ ⟨m, ys, rfl, htab, hlen, rfl⟩
  refine o_alloc fun c4 => ?_
  refine o_store (v := .pointer (some ⟨m, 0, none⟩)) rfl rfl rfl rfl rfl ?_
  first | refine g_endt ?_ | refine g_end ?_
  refine G.norm c4 #[.pointer (some ⟨m, 0, none⟩)] rfl ?_
  repeat (first | refine g_endt ?_ | refine g_end ?_ | refine g_then ?_ | refine g_in_normal ?_ | refine g_then_ret ?_ | refine g_in_ret ?_ | refine g_then_exit ?_ | refine g_in_exit rfl ?_ | refine g_in_exit_ne (by decide) ?_ | refine g_seq ?_ | refine g_region ?_ | refine g_block ?_ | refine g_ret ?_ | refine g_return_n ?_ | refine g_exit ?_ | refine g_skip ?_)
  refine o_load1 (v := .func (.func gf) #[] lb.toArray) rfl rfl ?_
  first | refine g_endt ?_ | refine g_end ?_
  repeat (first | refine g_endt ?_ | refine g_end ?_ | refine g_then ?_ | refine g_in_normal ?_ | refine g_then_ret ?_ | refine g_in_ret ?_ | refine g_then_exit ?_ | refine g_in_exit rfl ?_ | refine g_in_exit_ne (by decide) ?_ | refine g_seq ?_ | refine g_region ?_ | refine g_block ?_ | refine g_ret ?_ | refine g_return_n ?_ | refine g_exit ?_ | refine g_skip ?_)
  refine g_range (ps := [14]) (enc := encVE) (xs := xs) rfl
    (fun pre => (cellsB q #[.func (.yield l) #[] #[]] 67 :: cellsB c4 #[.pointer (some ⟨m, 0, none⟩)] 61 :: MapASI m ys :: J (lvF gs xs pre)) ++ Ks)
    (fun c pre => pu (c = .ret) :: Jx (lvF gs xs pre))
    (fun K => hit (K :: cellsB q #[.func (.yield l) #[] #[]] 67 :: cellsB c4 #[.pointer (some ⟨m, 0, none⟩)] 61 :: MapASI m ys :: J [])) (fun _ => rfl)
    (tk := (inferInstance : Take _ (cellsB q #[.func (.yield l) #[] #[]] 67 :: cellsB c4 #[.pointer (some ⟨m, 0, none⟩)] 61 :: MapASI m ys :: (J [] ++ Ks)) _)) ?_ ?_ ?_
  · intro w0 F l' r pre x hp
    have hpf := lvF_pre (gs := gs) hp
    repeat (first | refine g_endt ?_ | refine g_end ?_ | refine g_then ?_ | refine g_in_normal ?_ | refine g_then_ret ?_ | refine g_in_ret ?_ | refine g_then_exit ?_ | refine g_in_exit rfl ?_ | refine g_in_exit_ne (by decide) ?_ | refine g_seq ?_ | refine g_region ?_ | refine g_block ?_ | refine g_ret ?_ | refine g_return_n ?_ | refine g_exit ?_ | refine g_skip ?_)
    refine o_alloc fun c5 => ?_
    refine o_store (v := x.val) rfl rfl rfl rfl rfl ?_
    first | refine g_endt ?_ | refine g_end ?_
    refine G.norm c5 x.val.cells rfl ?_
    repeat (first | refine g_endt ?_ | refine g_end ?_ | refine g_then ?_ | refine g_in_normal ?_ | refine g_then_ret ?_ | refine g_in_ret ?_ | refine g_then_exit ?_ | refine g_in_exit rfl ?_ | refine g_in_exit_ne (by decide) ?_ | refine g_seq ?_ | refine g_region ?_ | refine g_block ?_ | refine g_ret ?_ | refine g_return_n ?_ | refine g_exit ?_ | refine g_skip ?_)
    refine g_begin ?_
    by_cases hf : rlev gs xs x.id ≠ 0
    · have hsn := lvF_yes (pre := pre) hf
      rw [hsn] at hpf
      repeat (first | refine g_endt ?_ | refine g_end ?_ | refine g_then ?_ | refine g_in_normal ?_ | refine g_then_ret ?_ | refine g_in_ret ?_ | refine g_then_exit ?_ | refine g_in_exit rfl ?_ | refine g_in_exit_ne (by decide) ?_ | refine g_seq ?_ | refine g_region ?_ | refine g_block ?_ | refine g_ret ?_ | refine g_return_n ?_ | refine g_exit ?_ | refine g_skip ?_)
      refine o_load1 (v := .pointer (some ⟨m, 0, none⟩)) rfl rfl ?_
      first | refine o_field rfl ?_ | refine o_fieldR rfl (by omega) ?_
      refine o_loadN (v := x.id.val) rfl rfl rfl ?_
      refine o_call (GetLv_spec m ys (rlev gs xs) x.id htab (by omega)) rfl rfl ?_
      rintro _ _ ⟨rfl, rfl⟩
      refine o_move ?_
      refine o_extract rfl rfl ?_
      refine o_extract rfl rfl ?_
      refine o_assign ?_
      refine o_assign ?_
      first | refine g_endt ?_ | refine g_end ?_
      rw [decide_eq_true hf]
      repeat (first | refine g_endt ?_ | refine g_end ?_ | refine g_then ?_ | refine g_in_normal ?_ | refine g_then_ret ?_ | refine g_in_ret ?_ | refine g_then_exit ?_ | refine g_in_exit rfl ?_ | refine g_in_exit_ne (by decide) ?_ | refine g_seq ?_ | refine g_region ?_ | refine g_block ?_ | refine g_ret ?_ | refine g_return_n ?_ | refine g_exit ?_ | refine g_skip ?_)
      refine o_move ?_
      refine o_move ?_
      refine o_want rfl rfl rfl rfl rfl (o_load1 (v := .func (.yield l) #[] #[]) rfl rfl ?_)
      refine o_want rfl rfl rfl rfl rfl (o_loadN (v := x.val) rfl rfl rfl ?_)
      refine o_want rfl rfl rfl rfl rfl (o_yield (hy (lvF gs xs pre) x hpf) rfl rfl ?_ ?_)
      · refine o_want rfl rfl rfl rfl rfl (o_not rfl ?_)
        refine o_pick_t rfl rfl ?_
        refine g_endt ?_
        first | refine g_seq (g_cond_f rfl (by first | rfl | (simp; done) | (simp; omega) | (simp; assumption)) ?_) | refine g_cond_f rfl (by first | rfl | (simp; done) | (simp; omega) | (simp; assumption)) ?_
        repeat (first | refine g_endt ?_ | refine g_end ?_ | refine g_then ?_ | refine g_in_normal ?_ | refine g_then_ret ?_ | refine g_in_ret ?_ | refine g_then_exit ?_ | refine g_in_exit rfl ?_ | refine g_in_exit_ne (by decide) ?_ | refine g_seq ?_ | refine g_region ?_ | refine g_block ?_ | refine g_ret ?_ | refine g_return_n ?_ | refine g_exit ?_ | refine g_skip ?_)
        exact g_next (tk := by
          show Take _ ((cellsB q #[.func (.yield l) #[] #[]] 67 :: cellsB c4 #[.pointer (some ⟨m, 0, none⟩)] 61 :: MapASI m ys :: J (lvF gs xs (pre ++ [x]))) ++ Ks) _
          rw [hsn]
          infer_instance)
      · refine o_want rfl rfl rfl rfl rfl (o_not rfl ?_)
        refine o_pick_t rfl rfl ?_
        refine g_endt ?_
        first | refine g_seq (g_cond_t rfl (by first | rfl | (simp; done) | (simp; omega) | (simp; assumption)) ?_) | refine g_cond_t rfl (by first | rfl | (simp; done) | (simp; omega) | (simp; assumption)) ?_
        repeat (first | refine g_endt ?_ | refine g_end ?_ | refine g_then ?_ | refine g_in_normal ?_ | refine g_then_ret ?_ | refine g_in_ret ?_ | refine g_then_exit ?_ | refine g_in_exit rfl ?_ | refine g_in_exit_ne (by decide) ?_ | refine g_seq ?_ | refine g_region ?_ | refine g_block ?_ | refine g_ret ?_ | refine g_return_n ?_ | refine g_exit ?_ | refine g_skip ?_)
        refine G.pu_in (q := Code.ret = Code.ret) rfl ?_
        exact g_leave_ret (tk := by
          show Take _ (pu (Code.ret = Code.ret) :: Jx (lvF gs xs (pre ++ [x]))) _
          rw [hsn]
          infer_instance)
    · have hf0 : rlev gs xs x.id = 0 := by omega
      have hsn := lvF_no (pre := pre) hf0
      repeat (first | refine g_endt ?_ | refine g_end ?_ | refine g_then ?_ | refine g_in_normal ?_ | refine g_then_ret ?_ | refine g_in_ret ?_ | refine g_then_exit ?_ | refine g_in_exit rfl ?_ | refine g_in_exit_ne (by decide) ?_ | refine g_seq ?_ | refine g_region ?_ | refine g_block ?_ | refine g_ret ?_ | refine g_return_n ?_ | refine g_exit ?_ | refine g_skip ?_)
      refine o_load1 (v := .pointer (some ⟨m, 0, none⟩)) rfl rfl ?_
      first | refine o_field rfl ?_ | refine o_fieldR rfl (by omega) ?_
      refine o_loadN (v := x.id.val) rfl rfl rfl ?_
      refine o_call (GetLv_spec m ys (rlev gs xs) x.id htab (by omega)) rfl rfl ?_
      rintro _ _ ⟨rfl, rfl⟩
      refine o_move ?_
      refine o_extract rfl rfl ?_
      refine o_extract rfl rfl ?_
      refine o_assign ?_
      refine o_assign ?_
      first | refine g_endt ?_ | refine g_end ?_
      rw [show decide (rlev gs xs x.id ≠ 0) = false from decide_eq_false hf]
      repeat (first | refine g_endt ?_ | refine g_end ?_ | refine g_then ?_ | refine g_in_normal ?_ | refine g_then_ret ?_ | refine g_in_ret ?_ | refine g_then_exit ?_ | refine g_in_exit rfl ?_ | refine g_in_exit_ne (by decide) ?_ | refine g_seq ?_ | refine g_region ?_ | refine g_block ?_ | refine g_ret ?_ | refine g_return_n ?_ | refine g_exit ?_ | refine g_skip ?_)
      refine o_move ?_
      refine o_move ?_
      first | refine o_unwanted rfl rfl rfl rfl rfl ?_ | refine o_undef rfl rfl rfl ?_
      first | refine o_unwanted rfl rfl rfl rfl rfl ?_ | refine o_undef rfl rfl rfl ?_
      first | refine o_unwanted rfl rfl rfl rfl rfl ?_ | refine o_undef rfl rfl rfl ?_
      first | (refine o_want rfl rfl rfl rfl rfl ?_; refine o_not rfl ?_) | refine o_unwanted rfl rfl rfl rfl rfl ?_ | refine o_undef rfl rfl rfl ?_
      first | refine o_pick_t rfl rfl ?_ | refine o_pick_f rfl rfl ?_
      first | refine g_endt ?_ | refine g_end ?_
      first | refine g_seq (g_cond_f rfl (by first | rfl | (simp; done) | (simp; omega) | (simp; assumption)) ?_) | refine g_cond_f rfl (by first | rfl | (simp; done) | (simp; omega) | (simp; assumption)) ?_
      repeat (first | refine g_endt ?_ | refine g_end ?_ | refine g_then ?_ | refine g_in_normal ?_ | refine g_then_ret ?_ | refine g_in_ret ?_ | refine g_then_exit ?_ | refine g_in_exit rfl ?_ | refine g_in_exit_ne (by decide) ?_ | refine g_seq ?_ | refine g_region ?_ | refine g_block ?_ | refine g_ret ?_ | refine g_return_n ?_ | refine g_exit ?_ | refine g_skip ?_)
      exact g_next (tk := by
        show Take _ ((cellsB q #[.func (.yield l) #[] #[]] 67 :: cellsB c4 #[.pointer (some ⟨m, 0, none⟩)] 61 :: MapASI m ys :: J (lvF gs xs (pre ++ [x]))) ++ Ks) _
        rw [hsn]
        infer_instance)
  · intro D
    repeat (first | refine g_endt ?_ | refine g_end ?_ | refine g_then ?_ | refine g_in_normal ?_ | refine g_then_ret ?_ | refine g_in_ret ?_ | refine g_then_exit ?_ | refine g_in_exit rfl ?_ | refine g_in_exit_ne (by decide) ?_ | refine g_seq ?_ | refine g_region ?_ | refine g_block ?_ | refine g_ret ?_ | refine g_return_n ?_ | refine g_exit ?_ | refine g_skip ?_)
    exact ret0 (K := J (lvF gs xs xs)) rfl (.inl rfl)
  · intro D c pre hp
    refine G.pu fun h => ?_
    subst h
    repeat (first | refine g_endt ?_ | refine g_end ?_ | refine g_then ?_ | refine g_in_normal ?_ | refine g_then_ret ?_ | refine g_in_ret ?_ | refine g_then_exit ?_ | refine g_in_exit rfl ?_ | refine g_in_exit_ne (by decide) ?_ | refine g_seq ?_ | refine g_region ?_ | refine g_block ?_ | refine g_ret ?_ | refine g_return_n ?_ | refine g_exit ?_ | refine g_skip ?_)
    exact ret0 (K := Jx (lvF gs xs pre)) rfl (.inr ⟨lvF gs xs pre, lvF_pre hp, rfl⟩)
end Go.Proofs.Ytfhkhghjlhohdaa
/- The reference's look at levels and at goals. -/
namespace Go.Proofs.Ytfhkhghjlhohdaa
open Go Go.Sl
attribute [local irreducible] Code.wpIn roundPost bodyPostM runL Ret Meets Begin

theorem ofL_take {out : List LvD} {s : SymD} {i : Nat} {p : LvD} (hp : out[i]? = some p) (hb : p.s.beq s = true) (h : ∀ (j : Nat) (q : LvD), j < i → out[j]? = some q → q.s.beq s = false) : ofL out s = p.n := by
  unfold ofL
  have hsp : out = out.take i ++ p :: out.drop (i + 1) := by
    have hlt := (List.getElem?_eq_some_iff.1 hp).1
    conv => lhs; rw [← List.take_append_drop i out]
    rw [List.drop_eq_getElem_cons hlt]
    rw [List.getElem?_eq_getElem hlt] at hp
    cases hp; rfl
  rw [hsp, List.find?_append, List.find?_eq_none.2 (fun q hq => ?_)]
  · simp [hb]
  · obtain ⟨j, hj⟩ := List.mem_iff_getElem?.1 hq
    rw [List.getElem?_take] at hj
    split at hj
    · rename_i hji; rw [h j q hji hj]; simp
    · cases hj
theorem ofL_none {out : List LvD} {s : SymD} (h : ∀ (j : Nat) (q : LvD), j < out.length → out[j]? = some q → q.s.beq s = false) : ofL out s = 0 := by
  unfold ofL
  rw [List.find?_eq_none.2 (fun q hq => ?_)]
  · rfl
  · obtain ⟨j, hj⟩ := List.mem_iff_getElem?.1 hq
    rw [h j q (List.getElem?_eq_some_iff.1 hj).1 hj]; simp
theorem Of10_spec (X : SProp) (A : Option Addr) (n c : Nat) (out : List LvD) (s : SymD) (hl : out.length = n) (hm : n ≤ 1000000) [hX : ∀ L, HasRd (X :: L) A encL 4 out] : Ctr Try.prog 14 [.slice A n c, s.val] [X] (fun v M => v = .int .i64 (ofL out s) ∧ M = [X]) := by
  refine spec_of Try.func14 rfl Try.ntmps14 rfl fun w0 F => ?_
  -- ponder/ponderref10.Of
  repeat (first | refine g_endt ?_ | refine g_end ?_ | refine g_then ?_ | refine g_in_normal ?_ | refine g_then_ret ?_ | refine g_in_ret ?_ | refine g_then_exit ?_ | refine g_in_exit rfl ?_ | refine g_in_exit_ne (by decide) ?_ | refine g_seq ?_ | refine g_region ?_ | refine g_block ?_ | refine g_ret ?_ | refine g_return_n ?_ | refine g_exit ?_ | refine g_skip ?_)
  refine o_boxc s.val.cells rfl rfl fun q => ?_
  refine o_assign ?_
  first | refine g_endt ?_ | refine g_end ?_
  repeat (first | refine g_endt ?_ | refine g_end ?_ | refine g_then ?_ | refine g_in_normal ?_ | refine g_then_ret ?_ | refine g_in_ret ?_ | refine g_then_exit ?_ | refine g_in_exit rfl ?_ | refine g_in_exit_ne (by decide) ?_ | refine g_seq ?_ | refine g_region ?_ | refine g_block ?_ | refine g_ret ?_ | refine g_return_n ?_ | refine g_exit ?_ | refine g_skip ?_)
  refine o_assign ?_
  first | refine g_endt ?_ | refine g_end ?_
  refine G.bring [X] ?_
  repeat (first | refine g_endt ?_ | refine g_end ?_ | refine g_then ?_ | refine g_in_normal ?_ | refine g_then_ret ?_ | refine g_in_ret ?_ | refine g_then_exit ?_ | refine g_in_exit rfl ?_ | refine g_in_exit_ne (by decide) ?_ | refine g_seq ?_ | refine g_region ?_ | refine g_block ?_ | refine g_ret ?_ | refine g_return_n ?_ | refine g_exit ?_ | refine g_skip ?_)
  refine g_loop (σ := {i : Nat // i ≤ n ∧ ∀ (j : Nat) (p : LvD), j < i → out[j]? = some p → p.s.beq s = false}) (S := fun i => [(0, .slice A n c), (3, .pointer (some ⟨q, 0, none⟩)), (5, .int .i64 (i.1 : Int))]) (H := fun _ => [X, cellsB q s.val.cells 25]) (μ := fun i => n - i.1)
    (s0 := ⟨0, Nat.zero_le _, fun j y h => absurd h (Nat.not_lt_zero j)⟩) (Sat.mem ⟨rfl, rfl, rfl, trivial⟩) ?_
  rintro ⟨i, hi, hlow⟩ ρ'
  dsimp only at hi hlow ⊢
  repeat (first | refine g_endt ?_ | refine g_end ?_ | refine g_then ?_ | refine g_in_normal ?_ | refine g_then_ret ?_ | refine g_in_ret ?_ | refine g_then_exit ?_ | refine g_in_exit rfl ?_ | refine g_in_exit_ne (by decide) ?_ | refine g_seq ?_ | refine g_region ?_ | refine g_block ?_ | refine g_ret ?_ | refine g_return_n ?_ | refine g_exit ?_ | refine g_skip ?_)
  refine o_move ?_
  refine o_move ?_
  refine o_len rfl rfl ?_
  refine o_lss rfl rfl ?_
  first | refine g_endt ?_ | refine g_end ?_
  by_cases h : i < n
  · first | refine g_seq (g_cond_t rfl (by first | rfl | (simp; done) | (simp; omega) | (simp; assumption)) ?_) | refine g_cond_t rfl (by first | rfl | (simp; done) | (simp; omega) | (simp; assumption)) ?_
    have hi' : i < out.length := by omega
    have hpos : 0 < out.length := by omega
    obtain ⟨p, hp⟩ : ∃ p, out[i]? = some p := ⟨_, List.getElem?_eq_getElem hi'⟩
    repeat (first | refine g_endt ?_ | refine g_end ?_ | refine g_then ?_ | refine g_in_normal ?_ | refine g_then_ret ?_ | refine g_in_ret ?_ | refine g_then_exit ?_ | refine g_in_exit rfl ?_ | refine g_in_exit_ne (by decide) ?_ | refine g_seq ?_ | refine g_region ?_ | refine g_block ?_ | refine g_ret ?_ | refine g_return_n ?_ | refine g_exit ?_ | refine g_skip ?_)
    refine g_draw [] [0,1,2,3,4,5,6] [X, cellsB q s.val.cells 25] mixed rfl ?_
    refine ob_q rfl rfl ⟨_, fun X Q h => o_move (g_end (h _ _ ⟨rfl, rfl⟩)), ?_⟩
    refine ob_q rfl rfl ⟨_, fun X Q h => o_move (g_end (h _ _ ⟨rfl, rfl⟩)), ?_⟩
    refine ob_q rfl rfl ⟨_, fun X Q h => o_indexR (ys := out) (i := i) rfl rfl rfl hi' hl rfl (g_end (h _ _ ⟨rfl, rfl⟩)), ?_⟩
    refine ob_q rfl rfl ⟨_, fun X Q h => o_fieldR (ys := out) rfl hpos (g_end (h _ _ ⟨rfl, rfl⟩)), ?_⟩
    refine ob_q rfl rfl ⟨_, fun X Q h => o_loadEN (off := 0) (ys := out) (v := p.s.val) rfl hp rfl rfl (g_end (h _ _ ⟨rfl, rfl⟩)), ?_⟩
    refine ob_q rfl rfl ⟨_, fun X Q h => o_loadN (v := s.val) rfl rfl rfl (g_end (h _ _ ⟨rfl, rfl⟩)), ?_⟩
    refine ob_q rfl rfl ⟨_, fun X Q h => o_eqty rfl rfl (eq_sym p.s s) (g_end (h _ _ ⟨rfl, rfl⟩)), ?_⟩
    refine ob_nil ?_
    cases hb : p.s.beq s with
    | true =>
      first | refine g_seq (g_cond_t rfl (by first | rfl | (simp; done) | (simp; omega) | (simp; assumption)) ?_) | refine g_cond_t rfl (by first | rfl | (simp; done) | (simp; omega) | (simp; assumption)) ?_
      repeat (first | refine g_endt ?_ | refine g_end ?_ | refine g_then ?_ | refine g_in_normal ?_ | refine g_then_ret ?_ | refine g_in_ret ?_ | refine g_then_exit ?_ | refine g_in_exit rfl ?_ | refine g_in_exit_ne (by decide) ?_ | refine g_seq ?_ | refine g_region ?_ | refine g_block ?_ | refine g_ret ?_ | refine g_return_n ?_ | refine g_exit ?_ | refine g_skip ?_)
      refine o_move ?_
      refine o_move ?_
      refine o_indexR (ys := out) (i := i) rfl rfl rfl hi' hl rfl ?_
      refine o_fieldR (ys := out) rfl hpos ?_
      refine o_loadE1 (off := 3) (ys := out) (v := .int .i64 p.n) rfl hp rfl ?_
      refine o_assign ?_
      first | refine g_endt ?_ | refine g_end ?_
      repeat (first | refine g_endt ?_ | refine g_end ?_ | refine g_then ?_ | refine g_in_normal ?_ | refine g_then_ret ?_ | refine g_in_ret ?_ | refine g_then_exit ?_ | refine g_in_exit rfl ?_ | refine g_in_exit_ne (by decide) ?_ | refine g_seq ?_ | refine g_region ?_ | refine g_block ?_ | refine g_ret ?_ | refine g_return_n ?_ | refine g_exit ?_ | refine g_skip ?_)
      exact ret1 (K := [X]) rfl (resT (v := .int .i64 p.n) rfl) ⟨by rw [ofL_take hp hb hlow], rfl⟩
    | false =>
      first | refine g_seq (g_cond_f rfl (by first | rfl | (simp; done) | (simp; omega) | (simp; assumption)) ?_) | refine g_cond_f rfl (by first | rfl | (simp; done) | (simp; omega) | (simp; assumption)) ?_
      repeat (first | refine g_endt ?_ | refine g_end ?_ | refine g_then ?_ | refine g_in_normal ?_ | refine g_then_ret ?_ | refine g_in_ret ?_ | refine g_then_exit ?_ | refine g_in_exit rfl ?_ | refine g_in_exit_ne (by decide) ?_ | refine g_seq ?_ | refine g_region ?_ | refine g_block ?_ | refine g_ret ?_ | refine g_return_n ?_ | refine g_exit ?_ | refine g_skip ?_)
      refine o_move ?_
      refine o_add (c := ((i + 1 : Nat) : Int)) rfl rfl (by omega) (by omega) (by omega) ?_
      refine o_assign ?_
      first | refine g_endt ?_ | refine g_end ?_
      repeat (first | refine g_endt ?_ | refine g_end ?_ | refine g_then ?_ | refine g_in_normal ?_ | refine g_then_ret ?_ | refine g_in_ret ?_ | refine g_then_exit ?_ | refine g_in_exit rfl ?_ | refine g_in_exit_ne (by decide) ?_ | refine g_seq ?_ | refine g_region ?_ | refine g_block ?_ | refine g_ret ?_ | refine g_return_n ?_ | refine g_exit ?_ | refine g_skip ?_)
      have hn : ∀ (j : Nat) (z : LvD), j < i + 1 → out[j]? = some z → z.s.beq s = false := fun j z hj hz => by
        by_cases e : j = i
        · subst e; rw [hp] at hz; cases hz; exact hb
        · exact hlow j z (by omega) hz
      exact g_meets (⟨i + 1, h, hn⟩) (by first | exact trivial | (dsimp only; omega)) (Sat.mem (by repeat (first | exact trivial | refine And.intro rfl ?_)))
  · first | refine g_seq (g_cond_f rfl (by simp; omega) ?_) | refine g_cond_f rfl (by simp; omega) ?_
    repeat (first | refine g_endt ?_ | refine g_end ?_ | refine g_then ?_ | refine g_in_normal ?_ | refine g_then_ret ?_ | refine g_in_ret ?_ | refine g_then_exit ?_ | refine g_in_exit rfl ?_ | refine g_in_exit_ne (by decide) ?_ | refine g_seq ?_ | refine g_region ?_ | refine g_block ?_ | refine g_ret ?_ | refine g_return_n ?_ | refine g_exit ?_ | refine g_skip ?_)
    refine o_assign ?_
    first | refine g_endt ?_ | refine g_end ?_
    repeat (first | refine g_endt ?_ | refine g_end ?_ | refine g_then ?_ | refine g_in_normal ?_ | refine g_then_ret ?_ | refine g_in_ret ?_ | refine g_then_exit ?_ | refine g_in_exit rfl ?_ | refine g_in_exit_ne (by decide) ?_ | refine g_seq ?_ | refine g_region ?_ | refine g_block ?_ | refine g_ret ?_ | refine g_return_n ?_ | refine g_exit ?_ | refine g_skip ?_)
    exact ret1 (K := [X]) rfl (resT (v := .int .i64 0) rfl) ⟨by rw [ofL_none fun j q hj hq => hlow j q (by omega) hq], rfl⟩
/-- The first place of a goal. -/
def firstF (gs : List SymD) (s : SymD) : Int := match gs.findIdx? (fun g => g.beq s) with | some i => (i : Int) | none => -1
theorem firstF_at {gs : List SymD} {s g : SymD} {i : Nat} (hg : gs[i]? = some g) (hb : g.beq s = true) (h : ∀ (j : Nat) (q : SymD), j < i → gs[j]? = some q → q.beq s = false) : firstF gs s = (i : Int) := by
  unfold firstF
  have : gs.findIdx? (fun g => g.beq s) = some i := by
    rw [List.findIdx?_eq_some_iff_getElem]
    obtain ⟨hlt, he⟩ := List.getElem?_eq_some_iff.1 hg
    refine ⟨hlt, by rw [he]; exact hb, fun j hj => ?_⟩
    have hj2 : j < gs.length := by omega
    rw [h j gs[j] hj (List.getElem?_eq_getElem hj2)]
    simp
  rw [this]
theorem firstF_none {gs : List SymD} {s : SymD} (h : ∀ (j : Nat) (q : SymD), j < gs.length → gs[j]? = some q → q.beq s = false) : firstF gs s = -1 := by
  unfold firstF
  have : gs.findIdx? (fun g => g.beq s) = none := by
    rw [List.findIdx?_eq_none_iff]
    intro q hq
    obtain ⟨j, hj⟩ := List.mem_iff_getElem?.1 hq
    exact h j q (List.getElem?_eq_some_iff.1 hj).1 hj
  rw [this]
/-- A goal is its own first place just if its level says so. -/
theorem firstF_iff {gs : List SymD} {l : List ElemD} {g : SymD} {i : Nat} (hg : gs[i]? = some g) {f : SymD → Int} (hf : LevIs gs l g (f g)) : firstF gs g = (i : Int) ↔ f g = (i : Int) + 1 := by
  obtain ⟨k, g', hk, hgk, hr, hm⟩ := hf
  have hgg : g = g' := hr.goal (List.mem_of_getElem? hg)
  subst hgg
  have h1 : firstF gs g = (k : Int) := firstF_at hgk ((SymD.beq_iff g g).2 rfl) fun j q hj hq => by
    rw [← Bool.not_eq_true, SymD.beq_iff]
    rintro rfl
    exact hm j q hj hq .base
  rw [h1, hk]
  omega
theorem first10_spec (A : Option Addr) (n c : Nat) (gs : List SymD) (s : SymD) (hl : gs.length = n) (hm : n ≤ 1000000) : Ctr Try.prog 35 [.slice A n c, s.val] [psl encS 3 A gs] (fun v M => v = .int .i64 (firstF gs s) ∧ M = []) := by
  refine spec_of Try.func35 rfl Try.ntmps35 rfl fun w0 F => ?_
  -- ponder/ponderref10.first
  repeat (first | refine g_endt ?_ | refine g_end ?_ | refine g_then ?_ | refine g_in_normal ?_ | refine g_then_ret ?_ | refine g_in_ret ?_ | refine g_then_exit ?_ | refine g_in_exit rfl ?_ | refine g_in_exit_ne (by decide) ?_ | refine g_seq ?_ | refine g_region ?_ | refine g_block ?_ | refine g_ret ?_ | refine g_return_n ?_ | refine g_exit ?_ | refine g_skip ?_)
  refine o_boxc s.val.cells rfl rfl fun q => ?_
  refine o_assign ?_
  first | refine g_endt ?_ | refine g_end ?_
  repeat (first | refine g_endt ?_ | refine g_end ?_ | refine g_then ?_ | refine g_in_normal ?_ | refine g_then_ret ?_ | refine g_in_ret ?_ | refine g_then_exit ?_ | refine g_in_exit rfl ?_ | refine g_in_exit_ne (by decide) ?_ | refine g_seq ?_ | refine g_region ?_ | refine g_block ?_ | refine g_ret ?_ | refine g_return_n ?_ | refine g_exit ?_ | refine g_skip ?_)
  refine o_assign ?_
  first | refine g_endt ?_ | refine g_end ?_
  repeat (first | refine g_endt ?_ | refine g_end ?_ | refine g_then ?_ | refine g_in_normal ?_ | refine g_then_ret ?_ | refine g_in_ret ?_ | refine g_then_exit ?_ | refine g_in_exit rfl ?_ | refine g_in_exit_ne (by decide) ?_ | refine g_seq ?_ | refine g_region ?_ | refine g_block ?_ | refine g_ret ?_ | refine g_return_n ?_ | refine g_exit ?_ | refine g_skip ?_)
  refine g_loop (σ := {i : Nat // i ≤ n ∧ ∀ (j : Nat) (p : SymD), j < i → gs[j]? = some p → p.beq s = false}) (S := fun i => [(0, .slice A n c), (3, .pointer (some ⟨q, 0, none⟩)), (5, .int .i64 (i.1 : Int))]) (H := fun _ => [psl encS 3 A gs, cellsB q s.val.cells 25]) (μ := fun i => n - i.1)
    (s0 := ⟨0, Nat.zero_le _, fun j y h => absurd h (Nat.not_lt_zero j)⟩) (Sat.mem ⟨rfl, rfl, rfl, trivial⟩) ?_
  rintro ⟨i, hi, hlow⟩ ρ'
  dsimp only at hi hlow ⊢
  repeat (first | refine g_endt ?_ | refine g_end ?_ | refine g_then ?_ | refine g_in_normal ?_ | refine g_then_ret ?_ | refine g_in_ret ?_ | refine g_then_exit ?_ | refine g_in_exit rfl ?_ | refine g_in_exit_ne (by decide) ?_ | refine g_seq ?_ | refine g_region ?_ | refine g_block ?_ | refine g_ret ?_ | refine g_return_n ?_ | refine g_exit ?_ | refine g_skip ?_)
  refine o_move ?_
  refine o_move ?_
  refine o_len rfl rfl ?_
  refine o_lss rfl rfl ?_
  first | refine g_endt ?_ | refine g_end ?_
  by_cases h : i < n
  · first | refine g_seq (g_cond_t rfl (by first | rfl | (simp; done) | (simp; omega) | (simp; assumption)) ?_) | refine g_cond_t rfl (by first | rfl | (simp; done) | (simp; omega) | (simp; assumption)) ?_
    have hi' : i < gs.length := by omega
    obtain ⟨p, hp⟩ : ∃ p, gs[i]? = some p := ⟨_, List.getElem?_eq_getElem hi'⟩
    repeat (first | refine g_endt ?_ | refine g_end ?_ | refine g_then ?_ | refine g_in_normal ?_ | refine g_then_ret ?_ | refine g_in_ret ?_ | refine g_then_exit ?_ | refine g_in_exit rfl ?_ | refine g_in_exit_ne (by decide) ?_ | refine g_seq ?_ | refine g_region ?_ | refine g_block ?_ | refine g_ret ?_ | refine g_return_n ?_ | refine g_exit ?_ | refine g_skip ?_)
    refine g_draw [] [0,1,2,3,4,5] [psl encS 3 A gs, cellsB q s.val.cells 25] mixed rfl ?_
    refine ob_q rfl rfl ⟨_, fun X Q h => o_move (g_end (h _ _ ⟨rfl, rfl⟩)), ?_⟩
    refine ob_q rfl rfl ⟨_, fun X Q h => o_move (g_end (h _ _ ⟨rfl, rfl⟩)), ?_⟩
    refine ob_q rfl rfl ⟨_, fun X Q h => o_indexR (ys := gs) (i := i) rfl rfl rfl hi' hl rfl (g_end (h _ _ ⟨rfl, rfl⟩)), ?_⟩
    refine ob_q rfl rfl ⟨_, fun X Q h => o_loadE (ys := gs) rfl rfl hp (g_end (h _ _ ⟨rfl, rfl⟩)), ?_⟩
    refine ob_q rfl rfl ⟨_, fun X Q h => o_loadN (v := s.val) rfl rfl rfl (g_end (h _ _ ⟨rfl, rfl⟩)), ?_⟩
    refine ob_q rfl rfl ⟨_, fun X Q h => o_eqty rfl rfl (eq_sym p s) (g_end (h _ _ ⟨rfl, rfl⟩)), ?_⟩
    refine ob_nil ?_
    cases hb : p.beq s with
    | true =>
      first | refine g_seq (g_cond_t rfl (by first | rfl | (simp; done) | (simp; omega) | (simp; assumption)) ?_) | refine g_cond_t rfl (by first | rfl | (simp; done) | (simp; omega) | (simp; assumption)) ?_
      repeat (first | refine g_endt ?_ | refine g_end ?_ | refine g_then ?_ | refine g_in_normal ?_ | refine g_then_ret ?_ | refine g_in_ret ?_ | refine g_then_exit ?_ | refine g_in_exit rfl ?_ | refine g_in_exit_ne (by decide) ?_ | refine g_seq ?_ | refine g_region ?_ | refine g_block ?_ | refine g_ret ?_ | refine g_return_n ?_ | refine g_exit ?_ | refine g_skip ?_)
      refine o_move ?_
      refine o_assign ?_
      first | refine g_endt ?_ | refine g_end ?_
      repeat (first | refine g_endt ?_ | refine g_end ?_ | refine g_then ?_ | refine g_in_normal ?_ | refine g_then_ret ?_ | refine g_in_ret ?_ | refine g_then_exit ?_ | refine g_in_exit rfl ?_ | refine g_in_exit_ne (by decide) ?_ | refine g_seq ?_ | refine g_region ?_ | refine g_block ?_ | refine g_ret ?_ | refine g_return_n ?_ | refine g_exit ?_ | refine g_skip ?_)
      exact ret1 (K := []) rfl (resT (v := .int .i64 (i : Int)) rfl) ⟨by rw [firstF_at hp hb hlow], rfl⟩
    | false =>
      first | refine g_seq (g_cond_f rfl (by first | rfl | (simp; done) | (simp; omega) | (simp; assumption)) ?_) | refine g_cond_f rfl (by first | rfl | (simp; done) | (simp; omega) | (simp; assumption)) ?_
      repeat (first | refine g_endt ?_ | refine g_end ?_ | refine g_then ?_ | refine g_in_normal ?_ | refine g_then_ret ?_ | refine g_in_ret ?_ | refine g_then_exit ?_ | refine g_in_exit rfl ?_ | refine g_in_exit_ne (by decide) ?_ | refine g_seq ?_ | refine g_region ?_ | refine g_block ?_ | refine g_ret ?_ | refine g_return_n ?_ | refine g_exit ?_ | refine g_skip ?_)
      refine o_move ?_
      refine o_add (c := ((i + 1 : Nat) : Int)) rfl rfl (by omega) (by omega) (by omega) ?_
      refine o_assign ?_
      first | refine g_endt ?_ | refine g_end ?_
      repeat (first | refine g_endt ?_ | refine g_end ?_ | refine g_then ?_ | refine g_in_normal ?_ | refine g_then_ret ?_ | refine g_in_ret ?_ | refine g_then_exit ?_ | refine g_in_exit rfl ?_ | refine g_in_exit_ne (by decide) ?_ | refine g_seq ?_ | refine g_region ?_ | refine g_block ?_ | refine g_ret ?_ | refine g_return_n ?_ | refine g_exit ?_ | refine g_skip ?_)
      have hn : ∀ (j : Nat) (z : SymD), j < i + 1 → gs[j]? = some z → z.beq s = false := fun j z hj hz => by
        by_cases e : j = i
        · subst e; rw [hp] at hz; cases hz; exact hb
        · exact hlow j z (by omega) hz
      exact g_meets (⟨i + 1, h, hn⟩) (by first | exact trivial | (dsimp only; omega)) (Sat.mem (by repeat (first | exact trivial | refine And.intro rfl ?_)))
  · first | refine g_seq (g_cond_f rfl (by simp; omega) ?_) | refine g_cond_f rfl (by simp; omega) ?_
    repeat (first | refine g_endt ?_ | refine g_end ?_ | refine g_then ?_ | refine g_in_normal ?_ | refine g_then_ret ?_ | refine g_in_ret ?_ | refine g_then_exit ?_ | refine g_in_exit rfl ?_ | refine g_in_exit_ne (by decide) ?_ | refine g_seq ?_ | refine g_region ?_ | refine g_block ?_ | refine g_ret ?_ | refine g_return_n ?_ | refine g_exit ?_ | refine g_skip ?_)
    refine o_assign ?_
    first | refine g_endt ?_ | refine g_end ?_
    repeat (first | refine g_endt ?_ | refine g_end ?_ | refine g_then ?_ | refine g_in_normal ?_ | refine g_then_ret ?_ | refine g_in_ret ?_ | refine g_then_exit ?_ | refine g_in_exit rfl ?_ | refine g_in_exit_ne (by decide) ?_ | refine g_seq ?_ | refine g_region ?_ | refine g_block ?_ | refine g_ret ?_ | refine g_return_n ?_ | refine g_exit ?_ | refine g_skip ?_)
    exact ret1 (K := []) rfl (resT (v := .int .i64 (-1)) rfl) ⟨by rw [firstF_none fun j q hj hq => hlow j q (by omega) hq], rfl⟩
end Go.Proofs.Ytfhkhghjlhohdaa
/- The reference's levels: the walk. -/
namespace Go.Proofs.Ytfhkhghjlhohdaa
open Go Go.Sl
attribute [local irreducible] Code.wpIn roundPost bodyPostM runL Ret Meets Begin

theorem nd_len {α : Type} : ∀ {l m : List α}, l.Pairwise (fun a b => a ≠ b) → (∀ x ∈ l, x ∈ m) → l.length ≤ m.length
  | [], _, _, _ => Nat.zero_le _
  | y :: l, m, hs, h => by
    obtain ⟨s, t, rfl⟩ := List.append_of_mem (h y List.mem_cons_self)
    rw [List.pairwise_cons] at hs
    have ih := nd_len (m := s ++ t) hs.2 fun x hx => by
      have hne := hs.1 x hx
      have := h x (List.mem_cons_of_mem _ hx)
      simp only [List.mem_append, List.mem_cons] at this ⊢
      rcases this with h | h | h
      · exact .inl h
      · exact absurd h.symm hne
      · exact .inr h
    simp only [List.length_append, List.length_cons] at ih ⊢
    omega
theorem tabL_len {gs : List SymD} {xs : List ElemD} {out : List LvD} {f : SymD → Int} (ht : TabL out f) (h : ∀ s, f s ≠ 0 → LevIs gs xs s (f s)) : out.length ≤ gs.length + xs.length := by
  have h1 := nd_len (l := out.map LvD.s) (m := gs ++ xs.map ElemD.value) (by rw [List.pairwise_map]; exact ht.nd) fun s hs => by
    obtain ⟨p, hp, rfl⟩ := List.mem_map.1 hs
    obtain ⟨h1, h2⟩ := ht.own p hp
    obtain ⟨i, g, _, hg, hr, _⟩ := h p.s (by rw [h2]; exact h1)
    cases hr with
    | base => exact List.mem_append_left _ (List.mem_of_getElem? hg)
    | @step a b _ he _ =>
      obtain ⟨e, hel, _, hv, _⟩ := he
      exact List.mem_append_right _ (List.mem_map.2 ⟨e, hel, hv⟩)
  simpa using h1
structure A1I (gs : List SymD) (xs : List ElemD) (n i : Nat) (out : List LvD) (f : SymD → Int) : Prop where
  le : i ≤ n
  ini : Init gs xs i f
  tab : TabL out f
structure A2I (gs : List SymD) (xs : List ElemD) (n i : Nat) (out : List LvD) (f : SymD → Int) : Prop where
  le : i ≤ n
  st : Stage gs xs i f
  tab : TabL out f
/-- On the way: the elements from j on are still to be looked at. -/
structure RunJ (gs : List SymD) (xs : List ElemD) (i k : Nat) (cur : Option SymD) (j : Nat) (todo : List SymD) (out : List LvD) (f : SymD → Int) : Prop where
  work : Work gs xs i todo cur f
  tab : TabL out f
  pre : ∀ (j' : Nat) (e : ElemD), j' < j → xs[j']? = some e → cur = some e.id → e.value.kind = 1 → f e.value ≠ 0
  mu : todo.length + (gs.length + xs.length - out.length) ≤ k
theorem RunJ.len {gs : List SymD} {xs : List ElemD} {i k j : Nat} {cur : Option SymD} {todo : List SymD} {out : List LvD} {f : SymD → Int} (h : RunJ gs xs i k cur j todo out f) : out.length ≤ gs.length + xs.length := tabL_len h.tab h.work.snd
theorem A1I.len {gs : List SymD} {xs : List ElemD} {n i : Nat} {out : List LvD} {f : SymD → Int} (h : A1I gs xs n i out f) : out.length ≤ gs.length + xs.length := tabL_len h.tab h.ini.snd
theorem A2I.len {gs : List SymD} {xs : List ElemD} {n i : Nat} {out : List LvD} {f : SymD → Int} (h : A2I gs xs n i out f) : out.length ≤ gs.length + xs.length := tabL_len h.tab h.st.snd
theorem RunJ.next {gs : List SymD} {xs : List ElemD} {i k j : Nat} {cur : Option SymD} {todo : List SymD} {out : List LvD} {f : SymD → Int} (h : RunJ gs xs i k cur j todo out f) {e : ElemD} (he : xs[j]? = some e) (hv : cur = some e.id → e.value.kind = 1 → f e.value ≠ 0) : RunJ gs xs i k cur (j + 1) todo out f :=
  ⟨h.work, h.tab, fun j' e' hj he' hc hk => by
    by_cases ej : j' = j
    · subst ej; rw [he] at he'; cases he'; exact hv hc hk
    · exact h.pre j' e' (by omega) he' hc hk, h.mu⟩
theorem RunJ.add {gs : List SymD} {xs : List ElemD} {i k j : Nat} {s g : SymD} {todo : List SymD} {out : List LvD} {f : SymD → Int} (h : RunJ gs xs i k (some s) j todo out f) (hg : gs[i]? = some g) {e : ElemD} (he : xs[j]? = some e) (hid : e.id = s) (hk1 : e.value.kind = 1) (hf : f e.value = 0) :
    RunJ gs xs i k (some s) (j + 1) (todo ++ [e.value]) (out ++ [⟨e.value, (i : Int) + 1⟩]) (updF f e.value ((i : Int) + 1)) := by
  have hw := h.work.add hg ⟨e, List.mem_of_getElem? he, hid, rfl, hk1⟩ hf
  have ht := h.tab.snoc hf (n := (i : Int) + 1) (by omega)
  have hl := tabL_len ht hw.snd
  refine ⟨hw, ht, fun j' e' hj he' hc hk => ?_, ?_⟩
  · by_cases ev : e'.value = e.value
    · rw [ev, updF_same]; omega
    · rw [updF_ne f _ ev]
      by_cases ej : j' = j
      · subst ej; rw [he] at he'; cases he'; exact absurd rfl ev
      · exact h.pre j' e' (by omega) he' hc hk
  · have := h.mu
    simp only [List.length_append, List.length_singleton] at hl ⊢
    omega
theorem RunJ.begin {gs : List SymD} {xs : List ElemD} {n i : Nat} {out : List LvD} {f : SymD → Int} (h : A2I gs xs n i out f) {g : SymD} (hg : gs[i]? = some g) (hf : f g = (i : Int) + 1) : RunJ gs xs i (1 + (gs.length + xs.length)) none 0 [g] out f :=
  ⟨h.st.begin hg hf, h.tab, fun j' e hj => absurd hj (Nat.not_lt_zero j'), by simp⟩
theorem RunJ.pop {gs : List SymD} {xs : List ElemD} {i k : Nat} {s : SymD} {todo : List SymD} {out : List LvD} {f : SymD → Int} (h : RunJ gs xs i k none 0 (s :: todo) out f) : 0 < k ∧ RunJ gs xs i (k - 1) (some s) 0 todo out f := by
  have := h.mu
  simp only [List.length_cons] at this
  exact ⟨by omega, h.work.pop, h.tab, fun j' e hj => absurd hj (Nat.not_lt_zero j'), by omega⟩
theorem RunJ.shut {gs : List SymD} {xs : List ElemD} {i k j : Nat} {s : SymD} {todo : List SymD} {out : List LvD} {f : SymD → Int} (h : RunJ gs xs i k (some s) j todo out f) (hj : xs.length ≤ j) : RunJ gs xs i k none 0 todo out f :=
  ⟨h.work.shut fun b ⟨e, he, hid, hv, hk⟩ => by
    obtain ⟨j', hj'⟩ := List.mem_iff_getElem?.1 he
    have := (List.getElem?_eq_some_iff.1 hj').1
    subst hv
    exact h.pre j' e (by omega) hj' (by rw [hid]) hk, h.tab, fun j' e hj => absurd hj (Nat.not_lt_zero j'), h.mu⟩
theorem RunJ.done {gs : List SymD} {xs : List ElemD} {n i k : Nat} {out : List LvD} {f : SymD → Int} (h : RunJ gs xs i k none 0 [] out f) (hi : i < n) : A2I gs xs n (i + 1) out f := ⟨hi, h.work.done, h.tab⟩
theorem slice_snoc {α : Type} (S : Option Addr) (e : Nat) (out : List α) (p : α) : Value.slice S (out.length + 1) e = Value.slice S (out ++ [p]).length e := by rw [List.length_append]; rfl
abbrev owL (S : Option Addr) (e : Nat) (out : List LvD) : SProp := osl 37 encL 4 S e out
abbrev qS (S : Option Addr) (e : Nat) (todo : List SymD) : SProp := qsl 25 encS 3 S e todo
set_option maxHeartbeats 4000000 in
theorem Levels10_spec (A : Option Addr) (n c : Nat) (gs : List SymD) (hg : gs.length = n) (hn : n ≤ 10000) (B : Option Addr) (m d : Nat) (xs : List ElemD) (hx : xs.length = m) (hm : m ≤ 10000) :
    Ctr Try.prog 11 [.slice A n c, .slice B m d] [psl encS 3 A gs, psl encE 12 B xs]
      (fun v M => ∃ S e out, v = .slice S out.length e ∧ TabL out (rlev gs xs) ∧ out.length ≤ n + m ∧ M = [psl encL 4 S out]) := by
  refine spec_of Try.func11 rfl Try.ntmps11 rfl fun w0 F => ?_
  -- ponder/ponderref10.Levels
  repeat (first | refine g_endt ?_ | refine g_end ?_ | refine g_then ?_ | refine g_in_normal ?_ | refine g_then_ret ?_ | refine g_in_ret ?_ | refine g_then_exit ?_ | refine g_in_exit rfl ?_ | refine g_in_exit_ne (by decide) ?_ | refine g_seq ?_ | refine g_region ?_ | refine g_block ?_ | refine g_ret ?_ | refine g_return_n ?_ | refine g_exit ?_ | refine g_skip ?_)
  refine o_assign ?_
  first | refine g_endt ?_ | refine g_end ?_
  repeat (first | refine g_endt ?_ | refine g_end ?_ | refine g_then ?_ | refine g_in_normal ?_ | refine g_then_ret ?_ | refine g_in_ret ?_ | refine g_then_exit ?_ | refine g_in_exit rfl ?_ | refine g_in_exit_ne (by decide) ?_ | refine g_seq ?_ | refine g_region ?_ | refine g_block ?_ | refine g_ret ?_ | refine g_return_n ?_ | refine g_exit ?_ | refine g_skip ?_)
  refine o_assign ?_
  first | refine g_endt ?_ | refine g_end ?_
  repeat (first | refine g_endt ?_ | refine g_end ?_ | refine g_then ?_ | refine g_in_normal ?_ | refine g_then_ret ?_ | refine g_in_ret ?_ | refine g_then_exit ?_ | refine g_in_exit rfl ?_ | refine g_in_exit_ne (by decide) ?_ | refine g_seq ?_ | refine g_region ?_ | refine g_block ?_ | refine g_ret ?_ | refine g_return_n ?_ | refine g_exit ?_ | refine g_skip ?_)
  refine o_assign ?_
  first | refine g_endt ?_ | refine g_end ?_
  refine G.nil_slice 37 encL 4 ?_
  repeat (first | refine g_endt ?_ | refine g_end ?_ | refine g_then ?_ | refine g_in_normal ?_ | refine g_then_ret ?_ | refine g_in_ret ?_ | refine g_then_exit ?_ | refine g_in_exit rfl ?_ | refine g_in_exit_ne (by decide) ?_ | refine g_seq ?_ | refine g_region ?_ | refine g_block ?_ | refine g_ret ?_ | refine g_return_n ?_ | refine g_exit ?_ | refine g_skip ?_)
  refine g_loop (σ := {t : Nat × (Option Addr × Nat) × List LvD × (SymD → Int) // A1I gs xs n t.1 t.2.2.1 t.2.2.2}) (S := fun t => [(0, .slice A n c), (1, .slice B m d), (5, .slice t.1.2.1.1 t.1.2.2.1.length t.1.2.1.2), (6, .int .i64 (t.1.1 : Int))])
    (H := fun t => [owL t.1.2.1.1 t.1.2.1.2 t.1.2.2.1, psl encS 3 A gs, psl encE 12 B xs]) (μ := fun t => n - t.1.1) (s0 := ⟨(0, (none, 0), [], fun _ => 0), Nat.zero_le _, Init.zero, TabL.nil⟩) (Sat.mem ⟨rfl, rfl, rfl, rfl, trivial⟩) ?_
  rintro ⟨⟨i, ⟨S, e⟩, out, f⟩, hI⟩ ρ'
  dsimp only at hI ⊢
  have hol := hI.len
  repeat (first | refine g_endt ?_ | refine g_end ?_ | refine g_then ?_ | refine g_in_normal ?_ | refine g_then_ret ?_ | refine g_in_ret ?_ | refine g_then_exit ?_ | refine g_in_exit rfl ?_ | refine g_in_exit_ne (by decide) ?_ | refine g_seq ?_ | refine g_region ?_ | refine g_block ?_ | refine g_ret ?_ | refine g_return_n ?_ | refine g_exit ?_ | refine g_skip ?_)
  refine o_move ?_
  refine o_move ?_
  refine o_len rfl rfl ?_
  refine o_lss rfl rfl ?_
  first | refine g_endt ?_ | refine g_end ?_
  by_cases h : i < n
  · first | refine g_seq (g_cond_t rfl (by first | rfl | (simp; done) | (simp; omega) | (simp; assumption)) ?_) | refine g_cond_t rfl (by first | rfl | (simp; done) | (simp; omega) | (simp; assumption)) ?_
    have hi' : i < gs.length := by omega
    obtain ⟨x, hxi⟩ : ∃ x, gs[i]? = some x := ⟨_, List.getElem?_eq_getElem hi'⟩
    repeat (first | refine g_endt ?_ | refine g_end ?_ | refine g_then ?_ | refine g_in_normal ?_ | refine g_then_ret ?_ | refine g_in_ret ?_ | refine g_then_exit ?_ | refine g_in_exit rfl ?_ | refine g_in_exit_ne (by decide) ?_ | refine g_seq ?_ | refine g_region ?_ | refine g_block ?_ | refine g_ret ?_ | refine g_return_n ?_ | refine g_exit ?_ | refine g_skip ?_)
    refine o_move ?_
    refine o_move ?_
    refine o_move ?_
    refine o_indexR (ys := gs) (i := i) rfl rfl rfl hi' hg rfl ?_
    refine o_loadE (ys := gs) rfl rfl hxi ?_
    refine o_call (Of10_spec (owL S e out) S out.length e out x rfl (by omega)) rfl rfl ?_
    rintro _ _ ⟨rfl, rfl⟩
    refine o_eql rfl rfl ?_
    first | refine g_endt ?_ | refine g_end ?_
    have hofx := hI.tab.all x
    by_cases hf : f x = 0
    · first | refine g_seq (g_cond_t rfl (by rw [hofx, hf]; rfl) ?_) | refine g_cond_t rfl (by rw [hofx, hf]; rfl) ?_
      repeat (first | refine g_endt ?_ | refine g_end ?_ | refine g_then ?_ | refine g_in_normal ?_ | refine g_then_ret ?_ | refine g_in_ret ?_ | refine g_then_exit ?_ | refine g_in_exit rfl ?_ | refine g_in_exit_ne (by decide) ?_ | refine g_seq ?_ | refine g_region ?_ | refine g_block ?_ | refine g_ret ?_ | refine g_return_n ?_ | refine g_exit ?_ | refine g_skip ?_)
      refine o_move ?_
      refine o_move ?_
      refine o_move ?_
      refine o_indexR (ys := gs) (i := i) rfl rfl rfl hi' hg rfl ?_
      refine o_loadE (ys := gs) rfl rfl hxi ?_
      refine o_move ?_
      refine o_add (c := (i : Int) + 1) rfl rfl rfl (by omega) (by omega) ?_
      refine o_build ((LvD.val ⟨x, (i : Int) + 1⟩)) (fun w => by kernel_rfl) ?_
      refine o_litP (e := 37) encL [⟨x, (i : Int) + 1⟩] (LvD.val ⟨x, (i : Int) + 1⟩).cells (fun w => by kernel_rfl) (by simp [encL]) (by simp [maxLen]) fun _ => ?_
      refine o_append (xs := out) (ys := [⟨x, (i : Int) + 1⟩]) rfl rfl rfl rfl rfl (fun _ => .inr trivial) (by simp [maxLen]; omega) (by simp; omega) fun S2 e2 => ?_
      refine o_assign ?_
      first | refine g_endt ?_ | refine g_end ?_
      repeat (first | refine g_endt ?_ | refine g_end ?_ | refine g_then ?_ | refine g_in_normal ?_ | refine g_then_ret ?_ | refine g_in_ret ?_ | refine g_then_exit ?_ | refine g_in_exit rfl ?_ | refine g_in_exit_ne (by decide) ?_ | refine g_seq ?_ | refine g_region ?_ | refine g_block ?_ | refine g_ret ?_ | refine g_return_n ?_ | refine g_exit ?_ | refine g_skip ?_)
      refine o_move ?_
      refine o_add (c := ((i + 1 : Nat) : Int)) rfl rfl (by omega) (by omega) (by omega) ?_
      refine o_assign ?_
      first | refine g_endt ?_ | refine g_end ?_
      repeat (first | refine g_endt ?_ | refine g_end ?_ | refine g_then ?_ | refine g_in_normal ?_ | refine g_then_ret ?_ | refine g_in_ret ?_ | refine g_then_exit ?_ | refine g_in_exit rfl ?_ | refine g_in_exit_ne (by decide) ?_ | refine g_seq ?_ | refine g_region ?_ | refine g_block ?_ | refine g_ret ?_ | refine g_return_n ?_ | refine g_exit ?_ | refine g_skip ?_)
      exact g_meets ⟨(i + 1, (S2, e2), out ++ [⟨x, (i : Int) + 1⟩], updF f x ((i : Int) + 1)), h, hI.ini.new hxi hf, hI.tab.snoc hf (by omega)⟩ (by show n - (i + 1) < n - i; omega) (Sat.mem ⟨rfl, rfl, slice_snoc _ _ _ _, rfl, trivial⟩)
    · first | refine g_seq (g_cond_f rfl (by rw [hofx]; simpa using hf) ?_) | refine g_cond_f rfl (by rw [hofx]; simpa using hf) ?_
      repeat (first | refine g_endt ?_ | refine g_end ?_ | refine g_then ?_ | refine g_in_normal ?_ | refine g_then_ret ?_ | refine g_in_ret ?_ | refine g_then_exit ?_ | refine g_in_exit rfl ?_ | refine g_in_exit_ne (by decide) ?_ | refine g_seq ?_ | refine g_region ?_ | refine g_block ?_ | refine g_ret ?_ | refine g_return_n ?_ | refine g_exit ?_ | refine g_skip ?_)
      refine o_move ?_
      refine o_add (c := ((i + 1 : Nat) : Int)) rfl rfl (by omega) (by omega) (by omega) ?_
      refine o_assign ?_
      first | refine g_endt ?_ | refine g_end ?_
      repeat (first | refine g_endt ?_ | refine g_end ?_ | refine g_then ?_ | refine g_in_normal ?_ | refine g_then_ret ?_ | refine g_in_ret ?_ | refine g_then_exit ?_ | refine g_in_exit rfl ?_ | refine g_in_exit_ne (by decide) ?_ | refine g_seq ?_ | refine g_region ?_ | refine g_block ?_ | refine g_ret ?_ | refine g_return_n ?_ | refine g_exit ?_ | refine g_skip ?_)
      exact g_meets (⟨(i + 1, (S, e), out, f), h, hI.ini.old hxi hf, hI.tab⟩) (by first | exact trivial | (dsimp only; omega)) (Sat.mem (by repeat (first | exact trivial | refine And.intro rfl ?_)))
  first | refine g_seq (g_cond_f rfl (by simp; omega) ?_) | refine g_cond_f rfl (by simp; omega) ?_
  have hin : i = gs.length := by have := hI.le; omega
  subst hin
  have hst := hI.ini.stage
  have htab := hI.tab
  repeat (first | refine g_endt ?_ | refine g_end ?_ | refine g_then ?_ | refine g_in_normal ?_ | refine g_then_ret ?_ | refine g_in_ret ?_ | refine g_then_exit ?_ | refine g_in_exit rfl ?_ | refine g_in_exit_ne (by decide) ?_ | refine g_seq ?_ | refine g_region ?_ | refine g_block ?_ | refine g_ret ?_ | refine g_return_n ?_ | refine g_exit ?_ | refine g_skip ?_)
  refine o_assign ?_
  first | refine g_endt ?_ | refine g_end ?_
  repeat (first | refine g_endt ?_ | refine g_end ?_ | refine g_then ?_ | refine g_in_normal ?_ | refine g_then_ret ?_ | refine g_in_ret ?_ | refine g_then_exit ?_ | refine g_in_exit rfl ?_ | refine g_in_exit_ne (by decide) ?_ | refine g_seq ?_ | refine g_region ?_ | refine g_block ?_ | refine g_ret ?_ | refine g_return_n ?_ | refine g_exit ?_ | refine g_skip ?_)
  refine g_loop (σ := {t : Nat × (Option Addr × Nat) × List LvD × (SymD → Int) // A2I gs xs n t.1 t.2.2.1 t.2.2.2}) (S := fun t => [(0, .slice A n c), (1, .slice B m d), (5, .slice t.1.2.1.1 t.1.2.2.1.length t.1.2.1.2), (7, .int .i64 (t.1.1 : Int))])
    (H := fun t => [owL t.1.2.1.1 t.1.2.1.2 t.1.2.2.1, psl encS 3 A gs, psl encE 12 B xs]) (μ := fun t => n - t.1.1) (s0 := ⟨(0, (S, e), out, f), Nat.zero_le _, hst, htab⟩) (Sat.mem ⟨rfl, rfl, rfl, rfl, trivial⟩) ?_
  clear hst htab hI h hol f out S e
  rintro ⟨⟨i, ⟨S, e⟩, out, f⟩, hI⟩ ρ2
  dsimp only at hI ⊢
  have hol := hI.len
  repeat (first | refine g_endt ?_ | refine g_end ?_ | refine g_then ?_ | refine g_in_normal ?_ | refine g_then_ret ?_ | refine g_in_ret ?_ | refine g_then_exit ?_ | refine g_in_exit rfl ?_ | refine g_in_exit_ne (by decide) ?_ | refine g_seq ?_ | refine g_region ?_ | refine g_block ?_ | refine g_ret ?_ | refine g_return_n ?_ | refine g_exit ?_ | refine g_skip ?_)
  refine o_move ?_
  refine o_move ?_
  refine o_len rfl rfl ?_
  refine o_lss rfl rfl ?_
  first | refine g_endt ?_ | refine g_end ?_
  by_cases h : i < n
  · first | refine g_seq (g_cond_t rfl (by first | rfl | (simp; done) | (simp; omega) | (simp; assumption)) ?_) | refine g_cond_t rfl (by first | rfl | (simp; done) | (simp; omega) | (simp; assumption)) ?_
    have hi' : i < gs.length := by omega
    obtain ⟨x, hxi⟩ : ∃ x, gs[i]? = some x := ⟨_, List.getElem?_eq_getElem hi'⟩
    have hfi := firstF_iff (l := xs) hxi (hI.st.snd x (hI.st.goal x (List.mem_of_getElem? hxi)))
    repeat (first | refine g_endt ?_ | refine g_end ?_ | refine g_then ?_ | refine g_in_normal ?_ | refine g_then_ret ?_ | refine g_in_ret ?_ | refine g_then_exit ?_ | refine g_in_exit rfl ?_ | refine g_in_exit_ne (by decide) ?_ | refine g_seq ?_ | refine g_region ?_ | refine g_block ?_ | refine g_ret ?_ | refine g_return_n ?_ | refine g_exit ?_ | refine g_skip ?_)
    refine o_move ?_
    refine o_move ?_
    refine o_indexR (ys := gs) (i := i) rfl rfl rfl hi' hg rfl ?_
    refine o_loadE (ys := gs) rfl rfl hxi ?_
    refine o_slice_lit (e := 25) x.val.cells (fun w => by kernel_rfl) fun b => ?_
    refine o_assign ?_
    first | refine g_endt ?_ | refine g_end ?_
    refine G.lit_q 25 (enc := encS) (sz := 3) b x.val.cells [x] (n := 1) rfl (by simp [encS]) (by simp [maxLen]) ?_
    by_cases hf : f x = (i : Int) + 1
    · have hfirst := hfi.2 hf
      repeat (first | refine g_endt ?_ | refine g_end ?_ | refine g_then ?_ | refine g_in_normal ?_ | refine g_then_ret ?_ | refine g_in_ret ?_ | refine g_then_exit ?_ | refine g_in_exit rfl ?_ | refine g_in_exit_ne (by decide) ?_ | refine g_seq ?_ | refine g_region ?_ | refine g_block ?_ | refine g_ret ?_ | refine g_return_n ?_ | refine g_exit ?_ | refine g_skip ?_)
      refine g_loop (σ := {t : Nat × ((Option Addr × Nat) × List SymD) × (Option Addr × Nat) × List LvD × (SymD → Int) // t.1 ≤ 1 + (gs.length + xs.length) ∧ RunJ gs xs i t.1 none 0 t.2.1.2 t.2.2.2.1 t.2.2.2.2})
        (S := fun t => [(0, .slice A n c), (1, .slice B m d), (5, .slice t.1.2.2.1.1 t.1.2.2.2.1.length t.1.2.2.1.2), (7, .int .i64 (i : Int)), (8, .slice t.1.2.1.1.1 t.1.2.1.2.length t.1.2.1.1.2)])
        (H := fun t => [owL t.1.2.2.1.1 t.1.2.2.1.2 t.1.2.2.2.1, qS t.1.2.1.1.1 t.1.2.1.1.2 t.1.2.1.2, psl encS 3 A gs, psl encE 12 B xs]) (μ := fun t => t.1.1)
        (s0 := ⟨(1 + (gs.length + xs.length), ((some ⟨b, 0, none⟩, 1), [x]), (S, e), out, f), Nat.le_refl _, RunJ.begin hI hxi hf⟩) (Sat.mem ⟨rfl, rfl, rfl, rfl, rfl, trivial⟩) ?_
      clear hol hf hI hfi f out S e
      rintro ⟨⟨k, ⟨⟨T, g⟩, todo⟩, ⟨S, e⟩, out, f⟩, hk, hR⟩ ρ3
      dsimp only at hk hR ⊢
      have hol := hR.len
      have hmu := hR.mu
      cases todo with
      | nil =>
        repeat (first | refine g_endt ?_ | refine g_end ?_ | refine g_then ?_ | refine g_in_normal ?_ | refine g_then_ret ?_ | refine g_in_ret ?_ | refine g_then_exit ?_ | refine g_in_exit rfl ?_ | refine g_in_exit_ne (by decide) ?_ | refine g_seq ?_ | refine g_region ?_ | refine g_block ?_ | refine g_ret ?_ | refine g_return_n ?_ | refine g_exit ?_ | refine g_skip ?_)
        refine o_move ?_
        refine o_len rfl rfl ?_
        refine o_gtr rfl rfl ?_
        rw [show decide (((([] : List SymD).length : Nat) : Int) > 0) = false from rfl]
        refine o_move ?_
        first | (refine o_want rfl rfl rfl rfl rfl ?_; refine o_move ?_) | refine o_unwanted rfl rfl rfl rfl rfl ?_ | refine o_undef rfl rfl rfl ?_
        first | (refine o_want rfl rfl rfl rfl rfl ?_; refine o_move ?_) | refine o_unwanted rfl rfl rfl rfl rfl ?_ | refine o_undef rfl rfl rfl ?_
        first | (refine o_want rfl rfl rfl rfl rfl ?_; refine o_move ?_) | refine o_unwanted rfl rfl rfl rfl rfl ?_ | refine o_undef rfl rfl rfl ?_
        first | (refine o_want rfl rfl rfl rfl rfl ?_; refine o_indexR rfl rfl rfl (by first | assumption | omega) (by first | rfl | assumption | omega) rfl ?_) | refine o_unwanted rfl rfl rfl rfl rfl ?_ | refine o_undef rfl rfl rfl ?_
        first | (refine o_want rfl rfl rfl rfl rfl ?_; (first | refine o_loadN rfl rfl rfl ?_ | refine o_loadE rfl rfl (by assumption) ?_ | refine o_loadEN rfl (by assumption) rfl rfl ?_)) | refine o_unwanted rfl rfl rfl rfl rfl ?_ | refine o_undef rfl rfl rfl ?_
        first | refine o_unwanted rfl rfl rfl rfl rfl ?_ | refine o_undef rfl rfl rfl ?_
        first | (refine o_want rfl rfl rfl rfl rfl ?_; refine o_move ?_) | refine o_unwanted rfl rfl rfl rfl rfl ?_ | refine o_undef rfl rfl rfl ?_
        first | (refine o_want rfl rfl rfl rfl rfl ?_; refine o_eql rfl rfl ?_) | refine o_unwanted rfl rfl rfl rfl rfl ?_ | refine o_undef rfl rfl rfl ?_
        first | refine o_pick_t rfl rfl ?_ | refine o_pick_f rfl rfl ?_
        first | refine g_endt ?_ | refine g_end ?_
        first | refine g_seq (g_cond_f rfl (by first | rfl | (simp; done) | (simp; omega) | (simp; assumption)) ?_) | refine g_cond_f rfl (by first | rfl | (simp; done) | (simp; omega) | (simp; assumption)) ?_
        repeat (first | refine g_endt ?_ | refine g_end ?_ | refine g_then ?_ | refine g_in_normal ?_ | refine g_then_ret ?_ | refine g_in_ret ?_ | refine g_then_exit ?_ | refine g_in_exit rfl ?_ | refine g_in_exit_ne (by decide) ?_ | refine g_seq ?_ | refine g_region ?_ | refine g_block ?_ | refine g_ret ?_ | refine g_return_n ?_ | refine g_exit ?_ | refine g_skip ?_)
        refine o_move ?_
        refine o_add (c := ((i + 1 : Nat) : Int)) rfl rfl (by omega) (by omega) (by omega) ?_
        refine o_assign ?_
        first | refine g_endt ?_ | refine g_end ?_
        repeat (first | refine g_endt ?_ | refine g_end ?_ | refine g_then ?_ | refine g_in_normal ?_ | refine g_then_ret ?_ | refine g_in_ret ?_ | refine g_then_exit ?_ | refine g_in_exit rfl ?_ | refine g_in_exit_ne (by decide) ?_ | refine g_seq ?_ | refine g_region ?_ | refine g_block ?_ | refine g_ret ?_ | refine g_return_n ?_ | refine g_exit ?_ | refine g_skip ?_)
        exact g_meets (⟨(i + 1, (S, e), out, f), hR.done h⟩) (by first | exact trivial | (dsimp only; omega)) (Sat.mem (by repeat (first | exact trivial | refine And.intro rfl ?_)))
      | cons s rest =>
        obtain ⟨hk0, hP⟩ := hR.pop
        repeat (first | refine g_endt ?_ | refine g_end ?_ | refine g_then ?_ | refine g_in_normal ?_ | refine g_then_ret ?_ | refine g_in_ret ?_ | refine g_then_exit ?_ | refine g_in_exit rfl ?_ | refine g_in_exit_ne (by decide) ?_ | refine g_seq ?_ | refine g_region ?_ | refine g_block ?_ | refine g_ret ?_ | refine g_return_n ?_ | refine g_exit ?_ | refine g_skip ?_)
        refine o_move ?_
        refine o_len rfl rfl ?_
        refine o_gtr rfl rfl ?_
        rw [show decide ((((s :: rest).length : Nat) : Int) > 0) = true from decide_eq_true (by first | (simp; done) | (simp; omega))]
        refine o_move ?_
        first | (refine o_want rfl rfl rfl rfl rfl ?_; refine o_move ?_) | refine o_unwanted rfl rfl rfl rfl rfl ?_ | refine o_undef rfl rfl rfl ?_
        first | (refine o_want rfl rfl rfl rfl rfl ?_; refine o_move ?_) | refine o_unwanted rfl rfl rfl rfl rfl ?_ | refine o_undef rfl rfl rfl ?_
        first | (refine o_want rfl rfl rfl rfl rfl ?_; refine o_move ?_) | refine o_unwanted rfl rfl rfl rfl rfl ?_ | refine o_undef rfl rfl rfl ?_
        refine o_want rfl rfl rfl rfl rfl (o_indexR (ys := gs) (i := i) rfl rfl rfl hi' hg rfl ?_)
        refine o_want rfl rfl rfl rfl rfl (o_loadE (ys := gs) rfl rfl hxi ?_)
        refine o_want rfl rfl rfl rfl rfl (o_callp (first10_spec A n c gs x hg (by omega)) rfl rfl ?_)
        rintro _ _ ⟨rfl, rfl⟩
        first | (refine o_want rfl rfl rfl rfl rfl ?_; refine o_move ?_) | refine o_unwanted rfl rfl rfl rfl rfl ?_ | refine o_undef rfl rfl rfl ?_
        first | (refine o_want rfl rfl rfl rfl rfl ?_; refine o_eql rfl rfl ?_) | refine o_unwanted rfl rfl rfl rfl rfl ?_ | refine o_undef rfl rfl rfl ?_
        first | refine o_pick_t rfl rfl ?_ | refine o_pick_f rfl rfl ?_
        first | refine g_endt ?_ | refine g_end ?_
        first | refine g_seq (g_cond_t rfl (by rw [hfirst]; simp) ?_) | refine g_cond_t rfl (by rw [hfirst]; simp) ?_
        repeat (first | refine g_endt ?_ | refine g_end ?_ | refine g_then ?_ | refine g_in_normal ?_ | refine g_then_ret ?_ | refine g_in_ret ?_ | refine g_then_exit ?_ | refine g_in_exit rfl ?_ | refine g_in_exit_ne (by decide) ?_ | refine g_seq ?_ | refine g_region ?_ | refine g_block ?_ | refine g_ret ?_ | refine g_return_n ?_ | refine g_exit ?_ | refine g_skip ?_)
        refine o_move ?_
        refine o_indexR (ys := s :: rest) (i := 0) rfl rfl rfl (by simp) rfl rfl ?_
        refine o_loadE (ys := s :: rest) (i := 0) rfl rfl rfl ?_
        refine o_alloc fun c9 => ?_
        refine o_store (v := s.val) rfl rfl rfl rfl rfl ?_
        first | refine g_endt ?_ | refine g_end ?_
        refine G.norm c9 s.val.cells rfl ?_
        repeat (first | refine g_endt ?_ | refine g_end ?_ | refine g_then ?_ | refine g_in_normal ?_ | refine g_then_ret ?_ | refine g_in_ret ?_ | refine g_then_exit ?_ | refine g_in_exit rfl ?_ | refine g_in_exit_ne (by decide) ?_ | refine g_seq ?_ | refine g_region ?_ | refine g_block ?_ | refine g_ret ?_ | refine g_return_n ?_ | refine g_exit ?_ | refine g_skip ?_)
        refine o_move ?_
        refine o_fromP (k := 1) rfl rfl rfl (by simp) ?_
        refine o_assign ?_
        first | refine g_endt ?_ | refine g_end ?_
        refine G.qdrop (e := 25) (enc := encS) (sz := 3) (c := g) (S := T) (xs := s :: rest) 1 (by simp) ?_
        change G _ _ (qS (offA T g 1 3) (g - 1) rest :: _) _
        repeat (first | refine g_endt ?_ | refine g_end ?_ | refine g_then ?_ | refine g_in_normal ?_ | refine g_then_ret ?_ | refine g_in_ret ?_ | refine g_then_exit ?_ | refine g_in_exit rfl ?_ | refine g_in_exit_ne (by decide) ?_ | refine g_seq ?_ | refine g_region ?_ | refine g_block ?_ | refine g_ret ?_ | refine g_return_n ?_ | refine g_exit ?_ | refine g_skip ?_)
        refine o_assign ?_
        first | refine g_endt ?_ | refine g_end ?_
        repeat (first | refine g_endt ?_ | refine g_end ?_ | refine g_then ?_ | refine g_in_normal ?_ | refine g_then_ret ?_ | refine g_in_ret ?_ | refine g_then_exit ?_ | refine g_in_exit rfl ?_ | refine g_in_exit_ne (by decide) ?_ | refine g_seq ?_ | refine g_region ?_ | refine g_block ?_ | refine g_ret ?_ | refine g_return_n ?_ | refine g_exit ?_ | refine g_skip ?_)
        refine g_loop (σ := {t : Nat × ((Option Addr × Nat) × List SymD) × (Option Addr × Nat) × List LvD × (SymD → Int) // t.1 ≤ m ∧ RunJ gs xs i (k - 1) (some s) t.1 t.2.1.2 t.2.2.2.1 t.2.2.2.2})
          (S := fun t => [(0, .slice A n c), (1, .slice B m d), (5, .slice t.1.2.2.1.1 t.1.2.2.2.1.length t.1.2.2.1.2), (7, .int .i64 (i : Int)), (8, .slice t.1.2.1.1.1 t.1.2.1.2.length t.1.2.1.1.2), (9, .pointer (some ⟨c9, 0, none⟩)), (10, .int .i64 (t.1.1 : Int))])
          (H := fun t => [owL t.1.2.2.1.1 t.1.2.2.1.2 t.1.2.2.2.1, qS t.1.2.1.1.1 t.1.2.1.1.2 t.1.2.1.2, cellsB c9 s.val.cells 25, psl encS 3 A gs, psl encE 12 B xs]) (μ := fun t => m - t.1.1)
          (s0 := ⟨(0, ((offA T g 1 3, g - 1), rest), (S, e), out, f), Nat.zero_le _, hP⟩) (Sat.mem ⟨rfl, rfl, rfl, rfl, rfl, rfl, rfl, trivial⟩) ?_
        clear hol hmu hR hP f out S e T g
        rintro ⟨⟨j, ⟨⟨T, g⟩, todo⟩, ⟨S, e⟩, out, f⟩, hj, hR⟩ ρ4
        dsimp only at hj hR ⊢
        have hol := hR.len
        have hmu := hR.mu
        repeat (first | refine g_endt ?_ | refine g_end ?_ | refine g_then ?_ | refine g_in_normal ?_ | refine g_then_ret ?_ | refine g_in_ret ?_ | refine g_then_exit ?_ | refine g_in_exit rfl ?_ | refine g_in_exit_ne (by decide) ?_ | refine g_seq ?_ | refine g_region ?_ | refine g_block ?_ | refine g_ret ?_ | refine g_return_n ?_ | refine g_exit ?_ | refine g_skip ?_)
        refine o_move ?_
        refine o_move ?_
        refine o_len rfl rfl ?_
        refine o_lss rfl rfl ?_
        first | refine g_endt ?_ | refine g_end ?_
        by_cases hjm : j < m
        · first | refine g_seq (g_cond_t rfl (by first | rfl | (simp; done) | (simp; omega) | (simp; assumption)) ?_) | refine g_cond_t rfl (by first | rfl | (simp; done) | (simp; omega) | (simp; assumption)) ?_
          have hj' : j < xs.length := by omega
          have hxpos : 0 < xs.length := by omega
          obtain ⟨el, he⟩ : ∃ el, xs[j]? = some el := ⟨_, List.getElem?_eq_getElem hj'⟩
          repeat (first | refine g_endt ?_ | refine g_end ?_ | refine g_then ?_ | refine g_in_normal ?_ | refine g_then_ret ?_ | refine g_in_ret ?_ | refine g_then_exit ?_ | refine g_in_exit rfl ?_ | refine g_in_exit_ne (by decide) ?_ | refine g_seq ?_ | refine g_region ?_ | refine g_block ?_ | refine g_ret ?_ | refine g_return_n ?_ | refine g_exit ?_ | refine g_skip ?_)
          refine o_move ?_
          refine o_move ?_
          refine o_indexR (ys := xs) (i := j) rfl rfl rfl hj' hx rfl ?_
          refine o_fieldR (ys := xs) rfl hxpos ?_
          refine o_loadEN (off := 6) (ys := xs) (v := el.value.val) rfl he rfl rfl ?_
          refine o_alloc fun c11 => ?_
          refine o_store (v := el.value.val) rfl rfl rfl rfl rfl ?_
          first | refine g_endt ?_ | refine g_end ?_
          refine G.norm c11 el.value.val.cells rfl ?_
          cases hb : el.id.beq s with
          | false =>
            have hne : some s ≠ some el.id := fun e => by cases e; rw [(SymD.beq_iff _ _).2 rfl] at hb; cases hb
            repeat (first | refine g_endt ?_ | refine g_end ?_ | refine g_then ?_ | refine g_in_normal ?_ | refine g_then_ret ?_ | refine g_in_ret ?_ | refine g_then_exit ?_ | refine g_in_exit rfl ?_ | refine g_in_exit_ne (by decide) ?_ | refine g_seq ?_ | refine g_region ?_ | refine g_block ?_ | refine g_ret ?_ | refine g_return_n ?_ | refine g_exit ?_ | refine g_skip ?_)
            refine g_draw [] [0,1,2,3,4,5,6,7,8,9,10,11,12,13,14,15,16,17] [owL S e out, qS T g todo, cellsB c9 s.val.cells 25, cellsB c11 el.value.val.cells 25, psl encS 3 A gs, psl encE 12 B xs] mixed rfl ?_
            refine ob_q rfl rfl ⟨_, fun X Q h => o_move (g_end (h _ _ ⟨rfl, rfl⟩)), ?_⟩
            refine ob_q rfl rfl ⟨_, fun X Q h => o_move (g_end (h _ _ ⟨rfl, rfl⟩)), ?_⟩
            refine ob_q rfl rfl ⟨_, fun X Q h => o_indexR (ys := xs) (i := j) rfl rfl rfl hj' hx rfl (g_end (h _ _ ⟨rfl, rfl⟩)), ?_⟩
            refine ob_q rfl rfl ⟨_, fun X Q h => o_fieldR (ys := xs) rfl hxpos (g_end (h _ _ ⟨rfl, rfl⟩)), ?_⟩
            refine ob_q rfl rfl ⟨_, fun X Q h => o_loadEN (off := 0) (ys := xs) (v := el.id.val) rfl he rfl rfl (g_end (h _ _ ⟨rfl, rfl⟩)), ?_⟩
            refine ob_q rfl rfl ⟨_, fun X Q h => o_loadN (v := s.val) rfl rfl rfl (g_end (h _ _ ⟨rfl, rfl⟩)), ?_⟩
            refine ob_q rfl rfl ⟨_, fun X Q h => o_eqty rfl rfl (eq_sym el.id s) (g_end (h _ _ ⟨rfl, rfl⟩)), ?_⟩
            rw [hb]
            refine ob_q rfl rfl ⟨_, fun X Q h => o_move (g_end (h _ _ ⟨rfl, rfl⟩)), ?_⟩
            first | refine ob_q rfl rfl ⟨_, fun X Q h => o_want rfl rfl rfl rfl rfl <| o_field rfl (g_end (h _ _ ⟨rfl, rfl⟩)), ?_⟩ | refine ob_q rfl rfl ⟨_, fun X Q h => o_want rfl rfl rfl rfl rfl <| o_fieldR rfl (by omega) (g_end (h _ _ ⟨rfl, rfl⟩)), ?_⟩ | refine ob_q rfl rfl ⟨_, fun X Q h => o_unwanted rfl rfl rfl rfl rfl (g_end (h _ _ ⟨rfl, rfl⟩)), ?_⟩ | refine ob_q rfl rfl ⟨_, fun X Q h => o_undef rfl rfl rfl (g_end (h _ _ ⟨rfl, rfl⟩)), ?_⟩
            first | refine ob_q rfl rfl ⟨_, fun X Q h => o_want rfl rfl rfl rfl rfl <| o_load1 rfl rfl (g_end (h _ _ ⟨rfl, rfl⟩)), ?_⟩ | refine ob_q rfl rfl ⟨_, fun X Q h => o_want rfl rfl rfl rfl rfl <| o_loadE0 rfl (by assumption) rfl (g_end (h _ _ ⟨rfl, rfl⟩)), ?_⟩ | refine ob_q rfl rfl ⟨_, fun X Q h => o_want rfl rfl rfl rfl rfl <| o_loadE1 rfl (by assumption) rfl (g_end (h _ _ ⟨rfl, rfl⟩)), ?_⟩ | refine ob_q rfl rfl ⟨_, fun X Q h => o_unwanted rfl rfl rfl rfl rfl (g_end (h _ _ ⟨rfl, rfl⟩)), ?_⟩ | refine ob_q rfl rfl ⟨_, fun X Q h => o_undef rfl rfl rfl (g_end (h _ _ ⟨rfl, rfl⟩)), ?_⟩
            first | refine ob_q rfl rfl ⟨_, fun X Q h => o_want rfl rfl rfl rfl rfl <| o_eql rfl rfl (g_end (h _ _ ⟨rfl, rfl⟩)), ?_⟩ | refine ob_q rfl rfl ⟨_, fun X Q h => o_unwanted rfl rfl rfl rfl rfl (g_end (h _ _ ⟨rfl, rfl⟩)), ?_⟩ | refine ob_q rfl rfl ⟨_, fun X Q h => o_undef rfl rfl rfl (g_end (h _ _ ⟨rfl, rfl⟩)), ?_⟩
            first | refine ob_q rfl rfl ⟨_, fun X Q h => o_pick_t rfl rfl (g_end (h _ _ ⟨rfl, rfl⟩)), ?_⟩ | refine ob_q rfl rfl ⟨_, fun X Q h => o_pick_f rfl rfl (g_end (h _ _ ⟨rfl, rfl⟩)), ?_⟩
            refine ob_q rfl rfl ⟨_, fun X Q h => o_move (g_end (h _ _ ⟨rfl, rfl⟩)), ?_⟩
            first | refine ob_q rfl rfl ⟨_, fun X Q h => o_want rfl rfl rfl rfl rfl <| o_move (g_end (h _ _ ⟨rfl, rfl⟩)), ?_⟩ | refine ob_q rfl rfl ⟨_, fun X Q h => o_unwanted rfl rfl rfl rfl rfl (g_end (h _ _ ⟨rfl, rfl⟩)), ?_⟩ | refine ob_q rfl rfl ⟨_, fun X Q h => o_undef rfl rfl rfl (g_end (h _ _ ⟨rfl, rfl⟩)), ?_⟩
            first | refine ob_q rfl rfl ⟨_, fun X Q h => o_want rfl rfl rfl rfl rfl <| o_loadN rfl rfl rfl (g_end (h _ _ ⟨rfl, rfl⟩)), ?_⟩ | refine ob_q rfl rfl ⟨_, fun X Q h => o_want rfl rfl rfl rfl rfl <| o_loadE rfl rfl (by assumption) (g_end (h _ _ ⟨rfl, rfl⟩)), ?_⟩ | refine ob_q rfl rfl ⟨_, fun X Q h => o_want rfl rfl rfl rfl rfl <| o_loadEN rfl (by assumption) rfl rfl (g_end (h _ _ ⟨rfl, rfl⟩)), ?_⟩ | refine ob_q rfl rfl ⟨_, fun X Q h => o_unwanted rfl rfl rfl rfl rfl (g_end (h _ _ ⟨rfl, rfl⟩)), ?_⟩ | refine ob_q rfl rfl ⟨_, fun X Q h => o_undef rfl rfl rfl (g_end (h _ _ ⟨rfl, rfl⟩)), ?_⟩
            first | refine ob_q rfl rfl ⟨_, fun X Q h => o_unwanted rfl rfl rfl rfl rfl (g_end (h _ _ ⟨rfl, rfl⟩)), ?_⟩ | refine ob_q rfl rfl ⟨_, fun X Q h => o_undef rfl rfl rfl (g_end (h _ _ ⟨rfl, rfl⟩)), ?_⟩
            first | refine ob_q rfl rfl ⟨_, fun X Q h => o_want rfl rfl rfl rfl rfl <| o_eql rfl rfl (g_end (h _ _ ⟨rfl, rfl⟩)), ?_⟩ | refine ob_q rfl rfl ⟨_, fun X Q h => o_unwanted rfl rfl rfl rfl rfl (g_end (h _ _ ⟨rfl, rfl⟩)), ?_⟩ | refine ob_q rfl rfl ⟨_, fun X Q h => o_undef rfl rfl rfl (g_end (h _ _ ⟨rfl, rfl⟩)), ?_⟩
            first | refine ob_q rfl rfl ⟨_, fun X Q h => o_pick_t rfl rfl (g_end (h _ _ ⟨rfl, rfl⟩)), ?_⟩ | refine ob_q rfl rfl ⟨_, fun X Q h => o_pick_f rfl rfl (g_end (h _ _ ⟨rfl, rfl⟩)), ?_⟩
            refine ob_nil ?_
            first | refine g_seq (g_cond_f rfl (by first | rfl | (simp; done) | (simp; omega) | (simp; assumption)) ?_) | refine g_cond_f rfl (by first | rfl | (simp; done) | (simp; omega) | (simp; assumption)) ?_
            repeat (first | refine g_endt ?_ | refine g_end ?_ | refine g_then ?_ | refine g_in_normal ?_ | refine g_then_ret ?_ | refine g_in_ret ?_ | refine g_then_exit ?_ | refine g_in_exit rfl ?_ | refine g_in_exit_ne (by decide) ?_ | refine g_seq ?_ | refine g_region ?_ | refine g_block ?_ | refine g_ret ?_ | refine g_return_n ?_ | refine g_exit ?_ | refine g_skip ?_)
            refine o_move ?_
            refine o_add (c := ((j + 1 : Nat) : Int)) rfl rfl (by omega) (by omega) (by omega) ?_
            refine o_assign ?_
            first | refine g_endt ?_ | refine g_end ?_
            repeat (first | refine g_endt ?_ | refine g_end ?_ | refine g_then ?_ | refine g_in_normal ?_ | refine g_then_ret ?_ | refine g_in_ret ?_ | refine g_then_exit ?_ | refine g_in_exit rfl ?_ | refine g_in_exit_ne (by decide) ?_ | refine g_seq ?_ | refine g_region ?_ | refine g_block ?_ | refine g_ret ?_ | refine g_return_n ?_ | refine g_exit ?_ | refine g_skip ?_)
            exact g_meets (⟨(j + 1, ((T, g), todo), (S, e), out, f), hjm, hR.next he fun h => absurd h hne⟩) (by first | exact trivial | (dsimp only; omega)) (Sat.mem (by repeat (first | exact trivial | refine And.intro rfl ?_)))
          | true =>
            have hid := (SymD.beq_iff _ _).1 hb
            by_cases hk1 : el.value.kind = 1
            · have hofv := hR.tab.all el.value
              by_cases hf : f el.value = 0
              · skip
                repeat (first | refine g_endt ?_ | refine g_end ?_ | refine g_then ?_ | refine g_in_normal ?_ | refine g_then_ret ?_ | refine g_in_ret ?_ | refine g_then_exit ?_ | refine g_in_exit rfl ?_ | refine g_in_exit_ne (by decide) ?_ | refine g_seq ?_ | refine g_region ?_ | refine g_block ?_ | refine g_ret ?_ | refine g_return_n ?_ | refine g_exit ?_ | refine g_skip ?_)
                refine g_draw [] [0,1,2,3,4,5,6,7,8,9,10,11,12,13,14,15,16,17] [owL S e out, qS T g todo, cellsB c9 s.val.cells 25, cellsB c11 el.value.val.cells 25, psl encS 3 A gs, psl encE 12 B xs] mixed rfl ?_
                refine ob_q rfl rfl ⟨_, fun X Q h => o_move (g_end (h _ _ ⟨rfl, rfl⟩)), ?_⟩
                refine ob_q rfl rfl ⟨_, fun X Q h => o_move (g_end (h _ _ ⟨rfl, rfl⟩)), ?_⟩
                refine ob_q rfl rfl ⟨_, fun X Q h => o_indexR (ys := xs) (i := j) rfl rfl rfl hj' hx rfl (g_end (h _ _ ⟨rfl, rfl⟩)), ?_⟩
                refine ob_q rfl rfl ⟨_, fun X Q h => o_fieldR (ys := xs) rfl hxpos (g_end (h _ _ ⟨rfl, rfl⟩)), ?_⟩
                refine ob_q rfl rfl ⟨_, fun X Q h => o_loadEN (off := 0) (ys := xs) (v := el.id.val) rfl he rfl rfl (g_end (h _ _ ⟨rfl, rfl⟩)), ?_⟩
                refine ob_q rfl rfl ⟨_, fun X Q h => o_loadN (v := s.val) rfl rfl rfl (g_end (h _ _ ⟨rfl, rfl⟩)), ?_⟩
                refine ob_q rfl rfl ⟨_, fun X Q h => o_eqty rfl rfl (eq_sym el.id s) (g_end (h _ _ ⟨rfl, rfl⟩)), ?_⟩
                rw [hb]
                refine ob_q rfl rfl ⟨_, fun X Q h => o_move (g_end (h _ _ ⟨rfl, rfl⟩)), ?_⟩
                first | refine ob_q rfl rfl ⟨_, fun X Q h => o_want rfl rfl rfl rfl rfl <| o_field rfl (g_end (h _ _ ⟨rfl, rfl⟩)), ?_⟩ | refine ob_q rfl rfl ⟨_, fun X Q h => o_want rfl rfl rfl rfl rfl <| o_fieldR rfl (by omega) (g_end (h _ _ ⟨rfl, rfl⟩)), ?_⟩ | refine ob_q rfl rfl ⟨_, fun X Q h => o_unwanted rfl rfl rfl rfl rfl (g_end (h _ _ ⟨rfl, rfl⟩)), ?_⟩ | refine ob_q rfl rfl ⟨_, fun X Q h => o_undef rfl rfl rfl (g_end (h _ _ ⟨rfl, rfl⟩)), ?_⟩
                refine ob_q rfl rfl ⟨_, fun X Q h => o_want rfl rfl rfl rfl rfl <| o_load1 (v := .int .i64 el.value.kind) rfl rfl (g_end (h _ _ ⟨rfl, rfl⟩)), ?_⟩
                first | refine ob_q rfl rfl ⟨_, fun X Q h => o_want rfl rfl rfl rfl rfl <| o_eql rfl rfl (g_end (h _ _ ⟨rfl, rfl⟩)), ?_⟩ | refine ob_q rfl rfl ⟨_, fun X Q h => o_unwanted rfl rfl rfl rfl rfl (g_end (h _ _ ⟨rfl, rfl⟩)), ?_⟩ | refine ob_q rfl rfl ⟨_, fun X Q h => o_undef rfl rfl rfl (g_end (h _ _ ⟨rfl, rfl⟩)), ?_⟩
                rw [show (el.value.kind == 1) = true from by simpa using hk1]
                first | refine ob_q rfl rfl ⟨_, fun X Q h => o_pick_t rfl rfl (g_end (h _ _ ⟨rfl, rfl⟩)), ?_⟩ | refine ob_q rfl rfl ⟨_, fun X Q h => o_pick_f rfl rfl (g_end (h _ _ ⟨rfl, rfl⟩)), ?_⟩
                refine ob_q rfl rfl ⟨_, fun X Q h => o_move (g_end (h _ _ ⟨rfl, rfl⟩)), ?_⟩
                first | refine ob_q rfl rfl ⟨_, fun X Q h => o_want rfl rfl rfl rfl rfl <| o_move (g_end (h _ _ ⟨rfl, rfl⟩)), ?_⟩ | refine ob_q rfl rfl ⟨_, fun X Q h => o_unwanted rfl rfl rfl rfl rfl (g_end (h _ _ ⟨rfl, rfl⟩)), ?_⟩ | refine ob_q rfl rfl ⟨_, fun X Q h => o_undef rfl rfl rfl (g_end (h _ _ ⟨rfl, rfl⟩)), ?_⟩
                refine ob_q rfl rfl ⟨_, fun X Q h => o_want rfl rfl rfl rfl rfl <| o_loadN (v := el.value.val) rfl rfl rfl (g_end (h _ _ ⟨rfl, rfl⟩)), ?_⟩
                refine ob_q rfl rfl ⟨_, fun X Q h => o_want rfl rfl rfl rfl rfl <| o_call (Of10_spec (owL S e out) S out.length e out el.value rfl (by omega)) rfl rfl <| by rintro _ _ ⟨rfl, rfl⟩; exact (g_end (h _ _ ⟨rfl, rfl⟩)), ?_⟩
                first | refine ob_q rfl rfl ⟨_, fun X Q h => o_want rfl rfl rfl rfl rfl <| o_eql rfl rfl (g_end (h _ _ ⟨rfl, rfl⟩)), ?_⟩ | refine ob_q rfl rfl ⟨_, fun X Q h => o_unwanted rfl rfl rfl rfl rfl (g_end (h _ _ ⟨rfl, rfl⟩)), ?_⟩ | refine ob_q rfl rfl ⟨_, fun X Q h => o_undef rfl rfl rfl (g_end (h _ _ ⟨rfl, rfl⟩)), ?_⟩
                first | refine ob_q rfl rfl ⟨_, fun X Q h => o_pick_t rfl rfl (g_end (h _ _ ⟨rfl, rfl⟩)), ?_⟩ | refine ob_q rfl rfl ⟨_, fun X Q h => o_pick_f rfl rfl (g_end (h _ _ ⟨rfl, rfl⟩)), ?_⟩
                refine ob_nil ?_
                first | refine g_seq (g_cond_t rfl (by rw [hofv, hf]; rfl) ?_) | refine g_cond_t rfl (by rw [hofv, hf]; rfl) ?_
                repeat (first | refine g_endt ?_ | refine g_end ?_ | refine g_then ?_ | refine g_in_normal ?_ | refine g_then_ret ?_ | refine g_in_ret ?_ | refine g_then_exit ?_ | refine g_in_exit rfl ?_ | refine g_in_exit_ne (by decide) ?_ | refine g_seq ?_ | refine g_region ?_ | refine g_block ?_ | refine g_ret ?_ | refine g_return_n ?_ | refine g_exit ?_ | refine g_skip ?_)
                refine o_move ?_
                refine o_loadN (v := el.value.val) rfl rfl rfl ?_
                refine o_move ?_
                refine o_add (c := (i : Int) + 1) rfl rfl rfl (by omega) (by omega) ?_
                refine o_build ((LvD.val ⟨el.value, (i : Int) + 1⟩)) (fun w => by kernel_rfl) ?_
                refine o_litP (e := 37) encL [⟨el.value, (i : Int) + 1⟩] (LvD.val ⟨el.value, (i : Int) + 1⟩).cells (fun w => by kernel_rfl) (by simp [encL]) (by simp [maxLen]) fun _ => ?_
                refine o_append (xs := out) (ys := [⟨el.value, (i : Int) + 1⟩]) rfl rfl rfl rfl rfl (fun _ => .inr trivial) (by simp [maxLen]; omega) (by simp; omega) fun S2 e2 => ?_
                refine o_assign ?_
                first | refine g_endt ?_ | refine g_end ?_
                repeat (first | refine g_endt ?_ | refine g_end ?_ | refine g_then ?_ | refine g_in_normal ?_ | refine g_then_ret ?_ | refine g_in_ret ?_ | refine g_then_exit ?_ | refine g_in_exit rfl ?_ | refine g_in_exit_ne (by decide) ?_ | refine g_seq ?_ | refine g_region ?_ | refine g_block ?_ | refine g_ret ?_ | refine g_return_n ?_ | refine g_exit ?_ | refine g_skip ?_)
                refine o_move ?_
                refine o_loadN (v := el.value.val) rfl rfl rfl ?_
                refine o_litP (e := 25) encS [el.value] (el.value).val.cells (fun w => by kernel_rfl) (by simp [encS]) (by simp [maxLen]) fun _ => ?_
                refine o_appendq (xs := todo) (ys := [el.value]) rfl rfl rfl rfl rfl (by decide) (by simp [maxLen]; omega) (by simp; omega) fun T2 g2 => ?_
                refine o_assign ?_
                first | refine g_endt ?_ | refine g_end ?_
                repeat (first | refine g_endt ?_ | refine g_end ?_ | refine g_then ?_ | refine g_in_normal ?_ | refine g_then_ret ?_ | refine g_in_ret ?_ | refine g_then_exit ?_ | refine g_in_exit rfl ?_ | refine g_in_exit_ne (by decide) ?_ | refine g_seq ?_ | refine g_region ?_ | refine g_block ?_ | refine g_ret ?_ | refine g_return_n ?_ | refine g_exit ?_ | refine g_skip ?_)
                refine o_move ?_
                refine o_add (c := ((j + 1 : Nat) : Int)) rfl rfl (by omega) (by omega) (by omega) ?_
                refine o_assign ?_
                first | refine g_endt ?_ | refine g_end ?_
                repeat (first | refine g_endt ?_ | refine g_end ?_ | refine g_then ?_ | refine g_in_normal ?_ | refine g_then_ret ?_ | refine g_in_ret ?_ | refine g_then_exit ?_ | refine g_in_exit rfl ?_ | refine g_in_exit_ne (by decide) ?_ | refine g_seq ?_ | refine g_region ?_ | refine g_block ?_ | refine g_ret ?_ | refine g_return_n ?_ | refine g_exit ?_ | refine g_skip ?_)
                exact g_meets ⟨(j + 1, ((T2, g2), todo ++ [el.value]), (S2, e2), out ++ [⟨el.value, (i : Int) + 1⟩], updF f el.value ((i : Int) + 1)), hjm, hR.add hxi he hid hk1 hf⟩ (by show m - (j + 1) < m - j; omega) (Sat.mem ⟨rfl, rfl, slice_snoc _ _ _ _, rfl, slice_snoc _ _ _ _, rfl, rfl, trivial⟩)
              · skip
                repeat (first | refine g_endt ?_ | refine g_end ?_ | refine g_then ?_ | refine g_in_normal ?_ | refine g_then_ret ?_ | refine g_in_ret ?_ | refine g_then_exit ?_ | refine g_in_exit rfl ?_ | refine g_in_exit_ne (by decide) ?_ | refine g_seq ?_ | refine g_region ?_ | refine g_block ?_ | refine g_ret ?_ | refine g_return_n ?_ | refine g_exit ?_ | refine g_skip ?_)
                refine g_draw [] [0,1,2,3,4,5,6,7,8,9,10,11,12,13,14,15,16,17] [owL S e out, qS T g todo, cellsB c9 s.val.cells 25, cellsB c11 el.value.val.cells 25, psl encS 3 A gs, psl encE 12 B xs] mixed rfl ?_
                refine ob_q rfl rfl ⟨_, fun X Q h => o_move (g_end (h _ _ ⟨rfl, rfl⟩)), ?_⟩
                refine ob_q rfl rfl ⟨_, fun X Q h => o_move (g_end (h _ _ ⟨rfl, rfl⟩)), ?_⟩
                refine ob_q rfl rfl ⟨_, fun X Q h => o_indexR (ys := xs) (i := j) rfl rfl rfl hj' hx rfl (g_end (h _ _ ⟨rfl, rfl⟩)), ?_⟩
                refine ob_q rfl rfl ⟨_, fun X Q h => o_fieldR (ys := xs) rfl hxpos (g_end (h _ _ ⟨rfl, rfl⟩)), ?_⟩
                refine ob_q rfl rfl ⟨_, fun X Q h => o_loadEN (off := 0) (ys := xs) (v := el.id.val) rfl he rfl rfl (g_end (h _ _ ⟨rfl, rfl⟩)), ?_⟩
                refine ob_q rfl rfl ⟨_, fun X Q h => o_loadN (v := s.val) rfl rfl rfl (g_end (h _ _ ⟨rfl, rfl⟩)), ?_⟩
                refine ob_q rfl rfl ⟨_, fun X Q h => o_eqty rfl rfl (eq_sym el.id s) (g_end (h _ _ ⟨rfl, rfl⟩)), ?_⟩
                rw [hb]
                refine ob_q rfl rfl ⟨_, fun X Q h => o_move (g_end (h _ _ ⟨rfl, rfl⟩)), ?_⟩
                first | refine ob_q rfl rfl ⟨_, fun X Q h => o_want rfl rfl rfl rfl rfl <| o_field rfl (g_end (h _ _ ⟨rfl, rfl⟩)), ?_⟩ | refine ob_q rfl rfl ⟨_, fun X Q h => o_want rfl rfl rfl rfl rfl <| o_fieldR rfl (by omega) (g_end (h _ _ ⟨rfl, rfl⟩)), ?_⟩ | refine ob_q rfl rfl ⟨_, fun X Q h => o_unwanted rfl rfl rfl rfl rfl (g_end (h _ _ ⟨rfl, rfl⟩)), ?_⟩ | refine ob_q rfl rfl ⟨_, fun X Q h => o_undef rfl rfl rfl (g_end (h _ _ ⟨rfl, rfl⟩)), ?_⟩
                refine ob_q rfl rfl ⟨_, fun X Q h => o_want rfl rfl rfl rfl rfl <| o_load1 (v := .int .i64 el.value.kind) rfl rfl (g_end (h _ _ ⟨rfl, rfl⟩)), ?_⟩
                first | refine ob_q rfl rfl ⟨_, fun X Q h => o_want rfl rfl rfl rfl rfl <| o_eql rfl rfl (g_end (h _ _ ⟨rfl, rfl⟩)), ?_⟩ | refine ob_q rfl rfl ⟨_, fun X Q h => o_unwanted rfl rfl rfl rfl rfl (g_end (h _ _ ⟨rfl, rfl⟩)), ?_⟩ | refine ob_q rfl rfl ⟨_, fun X Q h => o_undef rfl rfl rfl (g_end (h _ _ ⟨rfl, rfl⟩)), ?_⟩
                rw [show (el.value.kind == 1) = true from by simpa using hk1]
                first | refine ob_q rfl rfl ⟨_, fun X Q h => o_pick_t rfl rfl (g_end (h _ _ ⟨rfl, rfl⟩)), ?_⟩ | refine ob_q rfl rfl ⟨_, fun X Q h => o_pick_f rfl rfl (g_end (h _ _ ⟨rfl, rfl⟩)), ?_⟩
                refine ob_q rfl rfl ⟨_, fun X Q h => o_move (g_end (h _ _ ⟨rfl, rfl⟩)), ?_⟩
                first | refine ob_q rfl rfl ⟨_, fun X Q h => o_want rfl rfl rfl rfl rfl <| o_move (g_end (h _ _ ⟨rfl, rfl⟩)), ?_⟩ | refine ob_q rfl rfl ⟨_, fun X Q h => o_unwanted rfl rfl rfl rfl rfl (g_end (h _ _ ⟨rfl, rfl⟩)), ?_⟩ | refine ob_q rfl rfl ⟨_, fun X Q h => o_undef rfl rfl rfl (g_end (h _ _ ⟨rfl, rfl⟩)), ?_⟩
                refine ob_q rfl rfl ⟨_, fun X Q h => o_want rfl rfl rfl rfl rfl <| o_loadN (v := el.value.val) rfl rfl rfl (g_end (h _ _ ⟨rfl, rfl⟩)), ?_⟩
                refine ob_q rfl rfl ⟨_, fun X Q h => o_want rfl rfl rfl rfl rfl <| o_call (Of10_spec (owL S e out) S out.length e out el.value rfl (by omega)) rfl rfl <| by rintro _ _ ⟨rfl, rfl⟩; exact (g_end (h _ _ ⟨rfl, rfl⟩)), ?_⟩
                first | refine ob_q rfl rfl ⟨_, fun X Q h => o_want rfl rfl rfl rfl rfl <| o_eql rfl rfl (g_end (h _ _ ⟨rfl, rfl⟩)), ?_⟩ | refine ob_q rfl rfl ⟨_, fun X Q h => o_unwanted rfl rfl rfl rfl rfl (g_end (h _ _ ⟨rfl, rfl⟩)), ?_⟩ | refine ob_q rfl rfl ⟨_, fun X Q h => o_undef rfl rfl rfl (g_end (h _ _ ⟨rfl, rfl⟩)), ?_⟩
                first | refine ob_q rfl rfl ⟨_, fun X Q h => o_pick_t rfl rfl (g_end (h _ _ ⟨rfl, rfl⟩)), ?_⟩ | refine ob_q rfl rfl ⟨_, fun X Q h => o_pick_f rfl rfl (g_end (h _ _ ⟨rfl, rfl⟩)), ?_⟩
                refine ob_nil ?_
                first | refine g_seq (g_cond_f rfl (by rw [hofv]; simpa using hf) ?_) | refine g_cond_f rfl (by rw [hofv]; simpa using hf) ?_
                repeat (first | refine g_endt ?_ | refine g_end ?_ | refine g_then ?_ | refine g_in_normal ?_ | refine g_then_ret ?_ | refine g_in_ret ?_ | refine g_then_exit ?_ | refine g_in_exit rfl ?_ | refine g_in_exit_ne (by decide) ?_ | refine g_seq ?_ | refine g_region ?_ | refine g_block ?_ | refine g_ret ?_ | refine g_return_n ?_ | refine g_exit ?_ | refine g_skip ?_)
                refine o_move ?_
                refine o_add (c := ((j + 1 : Nat) : Int)) rfl rfl (by omega) (by omega) (by omega) ?_
                refine o_assign ?_
                first | refine g_endt ?_ | refine g_end ?_
                repeat (first | refine g_endt ?_ | refine g_end ?_ | refine g_then ?_ | refine g_in_normal ?_ | refine g_then_ret ?_ | refine g_in_ret ?_ | refine g_then_exit ?_ | refine g_in_exit rfl ?_ | refine g_in_exit_ne (by decide) ?_ | refine g_seq ?_ | refine g_region ?_ | refine g_block ?_ | refine g_ret ?_ | refine g_return_n ?_ | refine g_exit ?_ | refine g_skip ?_)
                exact g_meets (⟨(j + 1, ((T, g), todo), (S, e), out, f), hjm, hR.next he fun _ _ => hf⟩) (by first | exact trivial | (dsimp only; omega)) (Sat.mem (by repeat (first | exact trivial | refine And.intro rfl ?_)))
            · skip
              repeat (first | refine g_endt ?_ | refine g_end ?_ | refine g_then ?_ | refine g_in_normal ?_ | refine g_then_ret ?_ | refine g_in_ret ?_ | refine g_then_exit ?_ | refine g_in_exit rfl ?_ | refine g_in_exit_ne (by decide) ?_ | refine g_seq ?_ | refine g_region ?_ | refine g_block ?_ | refine g_ret ?_ | refine g_return_n ?_ | refine g_exit ?_ | refine g_skip ?_)
              refine g_draw [] [0,1,2,3,4,5,6,7,8,9,10,11,12,13,14,15,16,17] [owL S e out, qS T g todo, cellsB c9 s.val.cells 25, cellsB c11 el.value.val.cells 25, psl encS 3 A gs, psl encE 12 B xs] mixed rfl ?_
              refine ob_q rfl rfl ⟨_, fun X Q h => o_move (g_end (h _ _ ⟨rfl, rfl⟩)), ?_⟩
              refine ob_q rfl rfl ⟨_, fun X Q h => o_move (g_end (h _ _ ⟨rfl, rfl⟩)), ?_⟩
              refine ob_q rfl rfl ⟨_, fun X Q h => o_indexR (ys := xs) (i := j) rfl rfl rfl hj' hx rfl (g_end (h _ _ ⟨rfl, rfl⟩)), ?_⟩
              refine ob_q rfl rfl ⟨_, fun X Q h => o_fieldR (ys := xs) rfl hxpos (g_end (h _ _ ⟨rfl, rfl⟩)), ?_⟩
              refine ob_q rfl rfl ⟨_, fun X Q h => o_loadEN (off := 0) (ys := xs) (v := el.id.val) rfl he rfl rfl (g_end (h _ _ ⟨rfl, rfl⟩)), ?_⟩
              refine ob_q rfl rfl ⟨_, fun X Q h => o_loadN (v := s.val) rfl rfl rfl (g_end (h _ _ ⟨rfl, rfl⟩)), ?_⟩
              refine ob_q rfl rfl ⟨_, fun X Q h => o_eqty rfl rfl (eq_sym el.id s) (g_end (h _ _ ⟨rfl, rfl⟩)), ?_⟩
              rw [hb]
              refine ob_q rfl rfl ⟨_, fun X Q h => o_move (g_end (h _ _ ⟨rfl, rfl⟩)), ?_⟩
              first | refine ob_q rfl rfl ⟨_, fun X Q h => o_want rfl rfl rfl rfl rfl <| o_field rfl (g_end (h _ _ ⟨rfl, rfl⟩)), ?_⟩ | refine ob_q rfl rfl ⟨_, fun X Q h => o_want rfl rfl rfl rfl rfl <| o_fieldR rfl (by omega) (g_end (h _ _ ⟨rfl, rfl⟩)), ?_⟩ | refine ob_q rfl rfl ⟨_, fun X Q h => o_unwanted rfl rfl rfl rfl rfl (g_end (h _ _ ⟨rfl, rfl⟩)), ?_⟩ | refine ob_q rfl rfl ⟨_, fun X Q h => o_undef rfl rfl rfl (g_end (h _ _ ⟨rfl, rfl⟩)), ?_⟩
              refine ob_q rfl rfl ⟨_, fun X Q h => o_want rfl rfl rfl rfl rfl <| o_load1 (v := .int .i64 el.value.kind) rfl rfl (g_end (h _ _ ⟨rfl, rfl⟩)), ?_⟩
              first | refine ob_q rfl rfl ⟨_, fun X Q h => o_want rfl rfl rfl rfl rfl <| o_eql rfl rfl (g_end (h _ _ ⟨rfl, rfl⟩)), ?_⟩ | refine ob_q rfl rfl ⟨_, fun X Q h => o_unwanted rfl rfl rfl rfl rfl (g_end (h _ _ ⟨rfl, rfl⟩)), ?_⟩ | refine ob_q rfl rfl ⟨_, fun X Q h => o_undef rfl rfl rfl (g_end (h _ _ ⟨rfl, rfl⟩)), ?_⟩
              rw [show (el.value.kind == 1) = false from by simpa using hk1]
              first | refine ob_q rfl rfl ⟨_, fun X Q h => o_pick_t rfl rfl (g_end (h _ _ ⟨rfl, rfl⟩)), ?_⟩ | refine ob_q rfl rfl ⟨_, fun X Q h => o_pick_f rfl rfl (g_end (h _ _ ⟨rfl, rfl⟩)), ?_⟩
              refine ob_q rfl rfl ⟨_, fun X Q h => o_move (g_end (h _ _ ⟨rfl, rfl⟩)), ?_⟩
              first | refine ob_q rfl rfl ⟨_, fun X Q h => o_want rfl rfl rfl rfl rfl <| o_move (g_end (h _ _ ⟨rfl, rfl⟩)), ?_⟩ | refine ob_q rfl rfl ⟨_, fun X Q h => o_unwanted rfl rfl rfl rfl rfl (g_end (h _ _ ⟨rfl, rfl⟩)), ?_⟩ | refine ob_q rfl rfl ⟨_, fun X Q h => o_undef rfl rfl rfl (g_end (h _ _ ⟨rfl, rfl⟩)), ?_⟩
              first | refine ob_q rfl rfl ⟨_, fun X Q h => o_want rfl rfl rfl rfl rfl <| o_loadN rfl rfl rfl (g_end (h _ _ ⟨rfl, rfl⟩)), ?_⟩ | refine ob_q rfl rfl ⟨_, fun X Q h => o_want rfl rfl rfl rfl rfl <| o_loadE rfl rfl (by assumption) (g_end (h _ _ ⟨rfl, rfl⟩)), ?_⟩ | refine ob_q rfl rfl ⟨_, fun X Q h => o_want rfl rfl rfl rfl rfl <| o_loadEN rfl (by assumption) rfl rfl (g_end (h _ _ ⟨rfl, rfl⟩)), ?_⟩ | refine ob_q rfl rfl ⟨_, fun X Q h => o_unwanted rfl rfl rfl rfl rfl (g_end (h _ _ ⟨rfl, rfl⟩)), ?_⟩ | refine ob_q rfl rfl ⟨_, fun X Q h => o_undef rfl rfl rfl (g_end (h _ _ ⟨rfl, rfl⟩)), ?_⟩
              first | refine ob_q rfl rfl ⟨_, fun X Q h => o_unwanted rfl rfl rfl rfl rfl (g_end (h _ _ ⟨rfl, rfl⟩)), ?_⟩ | refine ob_q rfl rfl ⟨_, fun X Q h => o_undef rfl rfl rfl (g_end (h _ _ ⟨rfl, rfl⟩)), ?_⟩
              first | refine ob_q rfl rfl ⟨_, fun X Q h => o_want rfl rfl rfl rfl rfl <| o_eql rfl rfl (g_end (h _ _ ⟨rfl, rfl⟩)), ?_⟩ | refine ob_q rfl rfl ⟨_, fun X Q h => o_unwanted rfl rfl rfl rfl rfl (g_end (h _ _ ⟨rfl, rfl⟩)), ?_⟩ | refine ob_q rfl rfl ⟨_, fun X Q h => o_undef rfl rfl rfl (g_end (h _ _ ⟨rfl, rfl⟩)), ?_⟩
              first | refine ob_q rfl rfl ⟨_, fun X Q h => o_pick_t rfl rfl (g_end (h _ _ ⟨rfl, rfl⟩)), ?_⟩ | refine ob_q rfl rfl ⟨_, fun X Q h => o_pick_f rfl rfl (g_end (h _ _ ⟨rfl, rfl⟩)), ?_⟩
              refine ob_nil ?_
              first | refine g_seq (g_cond_f rfl (by first | rfl | (simp; done) | (simp; omega) | (simp; assumption)) ?_) | refine g_cond_f rfl (by first | rfl | (simp; done) | (simp; omega) | (simp; assumption)) ?_
              repeat (first | refine g_endt ?_ | refine g_end ?_ | refine g_then ?_ | refine g_in_normal ?_ | refine g_then_ret ?_ | refine g_in_ret ?_ | refine g_then_exit ?_ | refine g_in_exit rfl ?_ | refine g_in_exit_ne (by decide) ?_ | refine g_seq ?_ | refine g_region ?_ | refine g_block ?_ | refine g_ret ?_ | refine g_return_n ?_ | refine g_exit ?_ | refine g_skip ?_)
              refine o_move ?_
              refine o_add (c := ((j + 1 : Nat) : Int)) rfl rfl (by omega) (by omega) (by omega) ?_
              refine o_assign ?_
              first | refine g_endt ?_ | refine g_end ?_
              repeat (first | refine g_endt ?_ | refine g_end ?_ | refine g_then ?_ | refine g_in_normal ?_ | refine g_then_ret ?_ | refine g_in_ret ?_ | refine g_then_exit ?_ | refine g_in_exit rfl ?_ | refine g_in_exit_ne (by decide) ?_ | refine g_seq ?_ | refine g_region ?_ | refine g_block ?_ | refine g_ret ?_ | refine g_return_n ?_ | refine g_exit ?_ | refine g_skip ?_)
              exact g_meets (⟨(j + 1, ((T, g), todo), (S, e), out, f), hjm, hR.next he fun _ h => absurd h hk1⟩) (by first | exact trivial | (dsimp only; omega)) (Sat.mem (by repeat (first | exact trivial | refine And.intro rfl ?_)))
        · first | refine g_seq (g_cond_f rfl (by simp; omega) ?_) | refine g_cond_f rfl (by simp; omega) ?_
          repeat (first | refine g_endt ?_ | refine g_end ?_ | refine g_then ?_ | refine g_in_normal ?_ | refine g_then_ret ?_ | refine g_in_ret ?_ | refine g_then_exit ?_ | refine g_in_exit rfl ?_ | refine g_in_exit_ne (by decide) ?_ | refine g_seq ?_ | refine g_region ?_ | refine g_block ?_ | refine g_ret ?_ | refine g_return_n ?_ | refine g_exit ?_ | refine g_skip ?_)
          exact g_meets ⟨(k - 1, ((T, g), todo), (S, e), out, f), by omega, hR.shut (by omega)⟩ (by show k - 1 < k; omega) (Sat.mem (by repeat (first | exact trivial | refine And.intro rfl ?_)))
    · have hfirst : ¬ firstF gs x = (i : Int) := fun h => hf (hfi.1 h)
      repeat (first | refine g_endt ?_ | refine g_end ?_ | refine g_then ?_ | refine g_in_normal ?_ | refine g_then_ret ?_ | refine g_in_ret ?_ | refine g_then_exit ?_ | refine g_in_exit rfl ?_ | refine g_in_exit_ne (by decide) ?_ | refine g_seq ?_ | refine g_region ?_ | refine g_block ?_ | refine g_ret ?_ | refine g_return_n ?_ | refine g_exit ?_ | refine g_skip ?_)
      refine g_loop (σ := Unit) (S := fun _ => [(0, .slice A n c), (1, .slice B m d), (5, .slice S out.length e), (7, .int .i64 (i : Int)), (8, .slice (some ⟨b, 0, none⟩) 1 1)]) (H := fun _ => [owL S e out, psl encS 3 A gs, psl encE 12 B xs]) (μ := fun _ => 0) (s0 := ()) (Sat.mem ⟨rfl, rfl, rfl, rfl, rfl, trivial⟩) ?_
      rintro _ ρ3
      repeat (first | refine g_endt ?_ | refine g_end ?_ | refine g_then ?_ | refine g_in_normal ?_ | refine g_then_ret ?_ | refine g_in_ret ?_ | refine g_then_exit ?_ | refine g_in_exit rfl ?_ | refine g_in_exit_ne (by decide) ?_ | refine g_seq ?_ | refine g_region ?_ | refine g_block ?_ | refine g_ret ?_ | refine g_return_n ?_ | refine g_exit ?_ | refine g_skip ?_)
      refine o_move ?_
      refine o_len rfl rfl ?_
      refine o_gtr rfl rfl ?_
      refine o_move ?_
      first | (refine o_want rfl rfl rfl rfl rfl ?_; refine o_move ?_) | refine o_unwanted rfl rfl rfl rfl rfl ?_ | refine o_undef rfl rfl rfl ?_
      first | (refine o_want rfl rfl rfl rfl rfl ?_; refine o_move ?_) | refine o_unwanted rfl rfl rfl rfl rfl ?_ | refine o_undef rfl rfl rfl ?_
      first | (refine o_want rfl rfl rfl rfl rfl ?_; refine o_move ?_) | refine o_unwanted rfl rfl rfl rfl rfl ?_ | refine o_undef rfl rfl rfl ?_
      refine o_want rfl rfl rfl rfl rfl (o_indexR (ys := gs) (i := i) rfl rfl rfl hi' hg rfl ?_)
      refine o_want rfl rfl rfl rfl rfl (o_loadE (ys := gs) rfl rfl hxi ?_)
      refine o_want rfl rfl rfl rfl rfl (o_callp (first10_spec A n c gs x hg (by omega)) rfl rfl ?_)
      rintro _ _ ⟨rfl, rfl⟩
      first | (refine o_want rfl rfl rfl rfl rfl ?_; refine o_move ?_) | refine o_unwanted rfl rfl rfl rfl rfl ?_ | refine o_undef rfl rfl rfl ?_
      first | (refine o_want rfl rfl rfl rfl rfl ?_; refine o_eql rfl rfl ?_) | refine o_unwanted rfl rfl rfl rfl rfl ?_ | refine o_undef rfl rfl rfl ?_
      first | refine o_pick_t rfl rfl ?_ | refine o_pick_f rfl rfl ?_
      first | refine g_endt ?_ | refine g_end ?_
      first | refine g_seq (g_cond_f rfl (by simpa using hfirst) ?_) | refine g_cond_f rfl (by simpa using hfirst) ?_
      repeat (first | refine g_endt ?_ | refine g_end ?_ | refine g_then ?_ | refine g_in_normal ?_ | refine g_then_ret ?_ | refine g_in_ret ?_ | refine g_then_exit ?_ | refine g_in_exit rfl ?_ | refine g_in_exit_ne (by decide) ?_ | refine g_seq ?_ | refine g_region ?_ | refine g_block ?_ | refine g_ret ?_ | refine g_return_n ?_ | refine g_exit ?_ | refine g_skip ?_)
      refine o_move ?_
      refine o_add (c := ((i + 1 : Nat) : Int)) rfl rfl (by omega) (by omega) (by omega) ?_
      refine o_assign ?_
      first | refine g_endt ?_ | refine g_end ?_
      repeat (first | refine g_endt ?_ | refine g_end ?_ | refine g_then ?_ | refine g_in_normal ?_ | refine g_then_ret ?_ | refine g_in_ret ?_ | refine g_then_exit ?_ | refine g_in_exit rfl ?_ | refine g_in_exit_ne (by decide) ?_ | refine g_seq ?_ | refine g_region ?_ | refine g_block ?_ | refine g_ret ?_ | refine g_return_n ?_ | refine g_exit ?_ | refine g_skip ?_)
      exact g_meets (⟨(i + 1, (S, e), out, f), h, hI.st.skip hxi hf, hI.tab⟩) (by first | exact trivial | (dsimp only; omega)) (Sat.mem (by repeat (first | exact trivial | refine And.intro rfl ?_)))
  · first | refine g_seq (g_cond_f rfl (by simp; omega) ?_) | refine g_cond_f rfl (by simp; omega) ?_
    have hin : i = gs.length := by have := hI.le; omega
    subst hin
    have he := hI.st.all
    have htab : TabL out (rlev gs xs) := ⟨hI.tab.nd, fun p hp => by rw [← he p.s]; exact hI.tab.own p hp, fun s => by rw [hI.tab.all s, he s]⟩
    refine G.freeze_slice ?_
    repeat (first | refine g_endt ?_ | refine g_end ?_ | refine g_then ?_ | refine g_in_normal ?_ | refine g_then_ret ?_ | refine g_in_ret ?_ | refine g_then_exit ?_ | refine g_in_exit rfl ?_ | refine g_in_exit_ne (by decide) ?_ | refine g_seq ?_ | refine g_region ?_ | refine g_block ?_ | refine g_ret ?_ | refine g_return_n ?_ | refine g_exit ?_ | refine g_skip ?_)
    refine o_move ?_
    refine o_assign ?_
    first | refine g_endt ?_ | refine g_end ?_
    repeat (first | refine g_endt ?_ | refine g_end ?_ | refine g_then ?_ | refine g_in_normal ?_ | refine g_then_ret ?_ | refine g_in_ret ?_ | refine g_then_exit ?_ | refine g_in_exit rfl ?_ | refine g_in_exit_ne (by decide) ?_ | refine g_seq ?_ | refine g_region ?_ | refine g_block ?_ | refine g_ret ?_ | refine g_return_n ?_ | refine g_exit ?_ | refine g_skip ?_)
    exact ret1 (K := [psl encL 4 S out]) rfl (resT rfl) ⟨S, e, out, rfl, htab, by omega, rfl⟩
end Go.Proofs.Ytfhkhghjlhohdaa
/- Is a symbol one of these? -/
namespace Go.Proofs.Ytfhkhghjlhohdaa
open Go Go.Sl
attribute [local irreducible] Code.wpIn roundPost bodyPostM runL Ret Meets Begin

def inS (gs : List SymD) (s : SymD) : Bool := gs.any fun g => g.beq s
theorem inS_iff {gs : List SymD} {s : SymD} : inS gs s = true ↔ s ∈ gs := by
  unfold inS
  rw [List.any_eq_true]
  exact ⟨fun ⟨g, hg, hb⟩ => by rw [← (SymD.beq_iff _ _).1 hb]; exact hg, fun h => ⟨s, h, (SymD.beq_iff _ _).2 rfl⟩⟩
theorem Has04_spec (A : Option Addr) (n c : Nat) (gs : List SymD) (s : SymD) (hl : gs.length = n) (hm : n ≤ 1000000) : Ctr Try.prog 18 [.slice A n c, s.val] [psl encS 3 A gs] (fun v M => v = .bool (inS gs s) ∧ M = []) := by
  refine spec_of Try.func18 rfl Try.ntmps18 rfl fun w0 F => ?_
  -- ponder/ponderref04.Has
  repeat (first | refine g_endt ?_ | refine g_end ?_ | refine g_then ?_ | refine g_in_normal ?_ | refine g_then_ret ?_ | refine g_in_ret ?_ | refine g_then_exit ?_ | refine g_in_exit rfl ?_ | refine g_in_exit_ne (by decide) ?_ | refine g_seq ?_ | refine g_region ?_ | refine g_block ?_ | refine g_ret ?_ | refine g_return_n ?_ | refine g_exit ?_ | refine g_skip ?_)
  refine o_boxc s.val.cells rfl rfl fun q => ?_
  refine o_assign ?_
  first | refine g_endt ?_ | refine g_end ?_
  repeat (first | refine g_endt ?_ | refine g_end ?_ | refine g_then ?_ | refine g_in_normal ?_ | refine g_then_ret ?_ | refine g_in_ret ?_ | refine g_then_exit ?_ | refine g_in_exit rfl ?_ | refine g_in_exit_ne (by decide) ?_ | refine g_seq ?_ | refine g_region ?_ | refine g_block ?_ | refine g_ret ?_ | refine g_return_n ?_ | refine g_exit ?_ | refine g_skip ?_)
  refine o_assign ?_
  first | refine g_endt ?_ | refine g_end ?_
  repeat (first | refine g_endt ?_ | refine g_end ?_ | refine g_then ?_ | refine g_in_normal ?_ | refine g_then_ret ?_ | refine g_in_ret ?_ | refine g_then_exit ?_ | refine g_in_exit rfl ?_ | refine g_in_exit_ne (by decide) ?_ | refine g_seq ?_ | refine g_region ?_ | refine g_block ?_ | refine g_ret ?_ | refine g_return_n ?_ | refine g_exit ?_ | refine g_skip ?_)
  refine g_loop (σ := {i : Nat // i ≤ n ∧ ∀ (j : Nat) (p : SymD), j < i → gs[j]? = some p → p.beq s = false}) (S := fun i => [(0, .slice A n c), (3, .pointer (some ⟨q, 0, none⟩)), (5, .int .i64 (i.1 : Int))]) (H := fun _ => [psl encS 3 A gs, cellsB q s.val.cells 25]) (μ := fun i => n - i.1)
    (s0 := ⟨0, Nat.zero_le _, fun j y h => absurd h (Nat.not_lt_zero j)⟩) (Sat.mem ⟨rfl, rfl, rfl, trivial⟩) ?_
  rintro ⟨i, hi, hlow⟩ ρ'
  dsimp only at hi hlow ⊢
  repeat (first | refine g_endt ?_ | refine g_end ?_ | refine g_then ?_ | refine g_in_normal ?_ | refine g_then_ret ?_ | refine g_in_ret ?_ | refine g_then_exit ?_ | refine g_in_exit rfl ?_ | refine g_in_exit_ne (by decide) ?_ | refine g_seq ?_ | refine g_region ?_ | refine g_block ?_ | refine g_ret ?_ | refine g_return_n ?_ | refine g_exit ?_ | refine g_skip ?_)
  refine o_move ?_
  refine o_move ?_
  refine o_len rfl rfl ?_
  refine o_lss rfl rfl ?_
  first | refine g_endt ?_ | refine g_end ?_
  by_cases h : i < n
  · first | refine g_seq (g_cond_t rfl (by first | rfl | (simp; done) | (simp; omega) | (simp; assumption)) ?_) | refine g_cond_t rfl (by first | rfl | (simp; done) | (simp; omega) | (simp; assumption)) ?_
    have hi' : i < gs.length := by omega
    obtain ⟨p, hp⟩ : ∃ p, gs[i]? = some p := ⟨_, List.getElem?_eq_getElem hi'⟩
    repeat (first | refine g_endt ?_ | refine g_end ?_ | refine g_then ?_ | refine g_in_normal ?_ | refine g_then_ret ?_ | refine g_in_ret ?_ | refine g_then_exit ?_ | refine g_in_exit rfl ?_ | refine g_in_exit_ne (by decide) ?_ | refine g_seq ?_ | refine g_region ?_ | refine g_block ?_ | refine g_ret ?_ | refine g_return_n ?_ | refine g_exit ?_ | refine g_skip ?_)
    refine g_draw [] [0,1,2,3,4,5] [psl encS 3 A gs, cellsB q s.val.cells 25] mixed rfl ?_
    refine ob_q rfl rfl ⟨_, fun X Q h => o_move (g_end (h _ _ ⟨rfl, rfl⟩)), ?_⟩
    refine ob_q rfl rfl ⟨_, fun X Q h => o_move (g_end (h _ _ ⟨rfl, rfl⟩)), ?_⟩
    refine ob_q rfl rfl ⟨_, fun X Q h => o_indexR (ys := gs) (i := i) rfl rfl rfl hi' hl rfl (g_end (h _ _ ⟨rfl, rfl⟩)), ?_⟩
    refine ob_q rfl rfl ⟨_, fun X Q h => o_loadE (ys := gs) rfl rfl hp (g_end (h _ _ ⟨rfl, rfl⟩)), ?_⟩
    refine ob_q rfl rfl ⟨_, fun X Q h => o_loadN (v := s.val) rfl rfl rfl (g_end (h _ _ ⟨rfl, rfl⟩)), ?_⟩
    refine ob_q rfl rfl ⟨_, fun X Q h => o_eqty rfl rfl (eq_sym p s) (g_end (h _ _ ⟨rfl, rfl⟩)), ?_⟩
    refine ob_nil ?_
    cases hb : p.beq s with
    | true =>
      first | refine g_seq (g_cond_t rfl (by first | rfl | (simp; done) | (simp; omega) | (simp; assumption)) ?_) | refine g_cond_t rfl (by first | rfl | (simp; done) | (simp; omega) | (simp; assumption)) ?_
      repeat (first | refine g_endt ?_ | refine g_end ?_ | refine g_then ?_ | refine g_in_normal ?_ | refine g_then_ret ?_ | refine g_in_ret ?_ | refine g_then_exit ?_ | refine g_in_exit rfl ?_ | refine g_in_exit_ne (by decide) ?_ | refine g_seq ?_ | refine g_region ?_ | refine g_block ?_ | refine g_ret ?_ | refine g_return_n ?_ | refine g_exit ?_ | refine g_skip ?_)
      refine o_assign ?_
      first | refine g_endt ?_ | refine g_end ?_
      repeat (first | refine g_endt ?_ | refine g_end ?_ | refine g_then ?_ | refine g_in_normal ?_ | refine g_then_ret ?_ | refine g_in_ret ?_ | refine g_then_exit ?_ | refine g_in_exit rfl ?_ | refine g_in_exit_ne (by decide) ?_ | refine g_seq ?_ | refine g_region ?_ | refine g_block ?_ | refine g_ret ?_ | refine g_return_n ?_ | refine g_exit ?_ | refine g_skip ?_)
      exact ret1 (K := []) rfl (resT (v := .bool true) rfl) ⟨by rw [show inS gs s = true from List.any_eq_true.2 ⟨p, List.mem_of_getElem? hp, hb⟩], rfl⟩
    | false =>
      first | refine g_seq (g_cond_f rfl (by first | rfl | (simp; done) | (simp; omega) | (simp; assumption)) ?_) | refine g_cond_f rfl (by first | rfl | (simp; done) | (simp; omega) | (simp; assumption)) ?_
      repeat (first | refine g_endt ?_ | refine g_end ?_ | refine g_then ?_ | refine g_in_normal ?_ | refine g_then_ret ?_ | refine g_in_ret ?_ | refine g_then_exit ?_ | refine g_in_exit rfl ?_ | refine g_in_exit_ne (by decide) ?_ | refine g_seq ?_ | refine g_region ?_ | refine g_block ?_ | refine g_ret ?_ | refine g_return_n ?_ | refine g_exit ?_ | refine g_skip ?_)
      refine o_move ?_
      refine o_add (c := ((i + 1 : Nat) : Int)) rfl rfl (by omega) (by omega) (by omega) ?_
      refine o_assign ?_
      first | refine g_endt ?_ | refine g_end ?_
      repeat (first | refine g_endt ?_ | refine g_end ?_ | refine g_then ?_ | refine g_in_normal ?_ | refine g_then_ret ?_ | refine g_in_ret ?_ | refine g_then_exit ?_ | refine g_in_exit rfl ?_ | refine g_in_exit_ne (by decide) ?_ | refine g_seq ?_ | refine g_region ?_ | refine g_block ?_ | refine g_ret ?_ | refine g_return_n ?_ | refine g_exit ?_ | refine g_skip ?_)
      have hn : ∀ (j : Nat) (z : SymD), j < i + 1 → gs[j]? = some z → z.beq s = false := fun j z hj hz => by
        by_cases e : j = i
        · subst e; rw [hp] at hz; cases hz; exact hb
        · exact hlow j z (by omega) hz
      exact g_meets (⟨i + 1, h, hn⟩) (by first | exact trivial | (dsimp only; omega)) (Sat.mem (by repeat (first | exact trivial | refine And.intro rfl ?_)))
  · first | refine g_seq (g_cond_f rfl (by simp; omega) ?_) | refine g_cond_f rfl (by simp; omega) ?_
    repeat (first | refine g_endt ?_ | refine g_end ?_ | refine g_then ?_ | refine g_in_normal ?_ | refine g_then_ret ?_ | refine g_in_ret ?_ | refine g_then_exit ?_ | refine g_in_exit rfl ?_ | refine g_in_exit_ne (by decide) ?_ | refine g_seq ?_ | refine g_region ?_ | refine g_block ?_ | refine g_ret ?_ | refine g_return_n ?_ | refine g_exit ?_ | refine g_skip ?_)
    refine o_assign ?_
    first | refine g_endt ?_ | refine g_end ?_
    repeat (first | refine g_endt ?_ | refine g_end ?_ | refine g_then ?_ | refine g_in_normal ?_ | refine g_then_ret ?_ | refine g_in_ret ?_ | refine g_then_exit ?_ | refine g_in_exit rfl ?_ | refine g_in_exit_ne (by decide) ?_ | refine g_seq ?_ | refine g_region ?_ | refine g_block ?_ | refine g_ret ?_ | refine g_return_n ?_ | refine g_exit ?_ | refine g_skip ?_)
    exact ret1 (K := []) rfl (resT (v := .bool false) rfl) ⟨by
      rw [show inS gs s = false from List.any_eq_false.2 fun g hg => ?_]
      obtain ⟨j, hj⟩ := List.mem_iff_getElem?.1 hg
      rw [hlow j g (by have := (List.getElem?_eq_some_iff.1 hj).1; omega) hj]; simp, rfl⟩
end Go.Proofs.Ytfhkhghjlhohdaa
/- Symbols held against each other by the reference. -/
namespace Go.Proofs.Ytfhkhghjlhohdaa
open Go Go.Sl
attribute [local irreducible] Code.wpIn roundPost bodyPostM runL Ret Meets Begin

theorem cmpI_lt {a b : Int} : cmpI a b < 0 ↔ a < b := by unfold cmpI; (repeat' split) <;> omega
theorem cmpS_lt {a b : ByteArray} : cmpS a b < 0 ↔ Op.bytesLess a.toList b.toList = true := by
  unfold cmpS
  by_cases h1 : Op.bytesLess a.toList b.toList = true
  · simp [h1]
  · by_cases h2 : Op.bytesLess b.toList a.toList = true <;> simp [h1, h2]
theorem Before_spec (a b : SymD) : Ctr Try.prog 52 [a.val, b.val] [] (fun v M => v = .bool (decide (a.cmp b < 0)) ∧ M = []) := by
  refine spec_of Try.func52 rfl Try.ntmps52 rfl fun w0 F => ?_
  repeat (first | refine g_endt ?_ | refine g_end ?_ | refine g_then ?_ | refine g_in_normal ?_ | refine g_then_ret ?_ | refine g_in_ret ?_ | refine g_then_exit ?_ | refine g_in_exit rfl ?_ | refine g_in_exit_ne (by decide) ?_ | refine g_seq ?_ | refine g_region ?_ | refine g_block ?_ | refine g_ret ?_ | refine g_return_n ?_ | refine g_exit ?_ | refine g_skip ?_)
  refine o_boxc a.val.cells rfl rfl fun p => ?_
  refine o_boxc b.val.cells rfl rfl fun q => ?_
  refine o_assign ?_
  refine g_endt ?_
  repeat (first | refine g_endt ?_ | refine g_end ?_ | refine g_then ?_ | refine g_in_normal ?_ | refine g_then_ret ?_ | refine g_in_ret ?_ | refine g_then_exit ?_ | refine g_in_exit rfl ?_ | refine g_in_exit_ne (by decide) ?_ | refine g_seq ?_ | refine g_region ?_ | refine g_block ?_ | refine g_ret ?_ | refine g_return_n ?_ | refine g_exit ?_ | refine g_skip ?_)
  refine o_field rfl ?_
  refine o_load1 (v := .int .i64 a.kind) rfl rfl ?_
  refine o_field rfl ?_
  refine o_load1 (v := .int .i64 b.kind) rfl rfl ?_
  refine o_neq rfl rfl ?_
  refine g_endt ?_
  by_cases h1 : a.kind = b.kind
  · first | refine g_seq (g_cond_f rfl (by simp [h1]) ?_) | refine g_cond_f rfl (by simp [h1]) ?_
    have z1 : cmpI a.kind b.kind = 0 := by rw [h1]; exact linI.refl _
    repeat (first | refine g_endt ?_ | refine g_end ?_ | refine g_then ?_ | refine g_in_normal ?_ | refine g_then_ret ?_ | refine g_in_ret ?_ | refine g_then_exit ?_ | refine g_in_exit rfl ?_ | refine g_in_exit_ne (by decide) ?_ | refine g_seq ?_ | refine g_region ?_ | refine g_block ?_ | refine g_ret ?_ | refine g_return_n ?_ | refine g_exit ?_ | refine g_skip ?_)
    refine o_field rfl ?_
    refine o_load1 (v := .string a.text) rfl rfl ?_
    refine o_field rfl ?_
    refine o_load1 (v := .string b.text) rfl rfl ?_
    refine o_sneq rfl rfl ?_
    refine g_endt ?_
    by_cases h2 : a.text = b.text
    · first | refine g_seq (g_cond_f rfl (by simp [h2]) ?_) | refine g_cond_f rfl (by simp [h2]) ?_
      have z2 : cmpS a.text b.text = 0 := by rw [h2]; exact linS.refl _
      repeat (first | refine g_endt ?_ | refine g_end ?_ | refine g_then ?_ | refine g_in_normal ?_ | refine g_then_ret ?_ | refine g_in_ret ?_ | refine g_then_exit ?_ | refine g_in_exit rfl ?_ | refine g_in_exit_ne (by decide) ?_ | refine g_seq ?_ | refine g_region ?_ | refine g_block ?_ | refine g_ret ?_ | refine g_return_n ?_ | refine g_exit ?_ | refine g_skip ?_)
      refine o_field rfl ?_
      refine o_load1 (v := .int .i64 a.n) rfl rfl ?_
      refine o_field rfl ?_
      refine o_load1 (v := .int .i64 b.n) rfl rfl ?_
      refine o_lss rfl rfl ?_
      refine o_assign ?_
      refine g_endt ?_
      repeat (first | refine g_endt ?_ | refine g_end ?_ | refine g_then ?_ | refine g_in_normal ?_ | refine g_then_ret ?_ | refine g_in_ret ?_ | refine g_then_exit ?_ | refine g_in_exit rfl ?_ | refine g_in_exit_ne (by decide) ?_ | refine g_seq ?_ | refine g_region ?_ | refine g_block ?_ | refine g_ret ?_ | refine g_return_n ?_ | refine g_exit ?_ | refine g_skip ?_)
      exact ret1 rfl (resT (v := .bool (decide (a.n < b.n))) rfl) ⟨by rw [show a.cmp b = cmpI a.n b.n by simp [SymD.cmp, lex, z1, z2]]; simp only [cmpI_lt], rfl⟩
    · first | refine g_seq (g_cond_t rfl (by simpa [toList_inj] using h2) ?_) | refine g_cond_t rfl (by simpa [toList_inj] using h2) ?_
      have z2 : cmpS a.text b.text ≠ 0 := fun e => h2 (cmpS_zero e)
      repeat (first | refine g_endt ?_ | refine g_end ?_ | refine g_then ?_ | refine g_in_normal ?_ | refine g_then_ret ?_ | refine g_in_ret ?_ | refine g_then_exit ?_ | refine g_in_exit rfl ?_ | refine g_in_exit_ne (by decide) ?_ | refine g_seq ?_ | refine g_region ?_ | refine g_block ?_ | refine g_ret ?_ | refine g_return_n ?_ | refine g_exit ?_ | refine g_skip ?_)
      refine o_field rfl ?_
      refine o_load1 (v := .string a.text) rfl rfl ?_
      refine o_field rfl ?_
      refine o_load1 (v := .string b.text) rfl rfl ?_
      refine o_slss rfl rfl ?_
      refine o_assign ?_
      refine g_endt ?_
      repeat (first | refine g_endt ?_ | refine g_end ?_ | refine g_then ?_ | refine g_in_normal ?_ | refine g_then_ret ?_ | refine g_in_ret ?_ | refine g_then_exit ?_ | refine g_in_exit rfl ?_ | refine g_in_exit_ne (by decide) ?_ | refine g_seq ?_ | refine g_region ?_ | refine g_block ?_ | refine g_ret ?_ | refine g_return_n ?_ | refine g_exit ?_ | refine g_skip ?_)
      exact ret1 rfl (resT (v := .bool (Op.bytesLess a.text.toList b.text.toList)) rfl) ⟨by rw [show a.cmp b = cmpS a.text b.text by simp [SymD.cmp, lex, z1, z2]]; simp only [cmpS_lt, Bool.decide_eq_true], rfl⟩
  · first | refine g_seq (g_cond_t rfl (by simpa using h1) ?_) | refine g_cond_t rfl (by simpa using h1) ?_
    have z1 : cmpI a.kind b.kind ≠ 0 := fun e => h1 (cmpI_zero e)
    repeat (first | refine g_endt ?_ | refine g_end ?_ | refine g_then ?_ | refine g_in_normal ?_ | refine g_then_ret ?_ | refine g_in_ret ?_ | refine g_then_exit ?_ | refine g_in_exit rfl ?_ | refine g_in_exit_ne (by decide) ?_ | refine g_seq ?_ | refine g_region ?_ | refine g_block ?_ | refine g_ret ?_ | refine g_return_n ?_ | refine g_exit ?_ | refine g_skip ?_)
    refine o_field rfl ?_
    refine o_load1 (v := .int .i64 a.kind) rfl rfl ?_
    refine o_field rfl ?_
    refine o_load1 (v := .int .i64 b.kind) rfl rfl ?_
    refine o_lss rfl rfl ?_
    refine o_assign ?_
    refine g_endt ?_
    repeat (first | refine g_endt ?_ | refine g_end ?_ | refine g_then ?_ | refine g_in_normal ?_ | refine g_then_ret ?_ | refine g_in_ret ?_ | refine g_then_exit ?_ | refine g_in_exit rfl ?_ | refine g_in_exit_ne (by decide) ?_ | refine g_seq ?_ | refine g_region ?_ | refine g_block ?_ | refine g_ret ?_ | refine g_return_n ?_ | refine g_exit ?_ | refine g_skip ?_)
    exact ret1 rfl (resT (v := .bool (decide (a.kind < b.kind))) rfl) ⟨by rw [show a.cmp b = cmpI a.kind b.kind by simp [SymD.cmp, lex, z1]]; simp only [cmpI_lt], rfl⟩
end Go.Proofs.Ytfhkhghjlhohdaa
/- How often each symbol stands in a list, as an ordered map has it. Plain law, no program in sight. -/
namespace Go.Proofs.Ytfhkhghjlhohdaa
open Go Go.Sl

def cnt (l : List SymD) (k : SymD) : Nat := l.countP fun s => s.beq k
theorem cnt_snoc (l : List SymD) (x k : SymD) : cnt (l ++ [x]) k = cnt l k + if x.beq k = true then 1 else 0 := by
  simp [cnt, List.countP_append, List.countP_singleton]
theorem SymD.beq_self (x : SymD) : x.beq x = true := (SymD.beq_iff x x).2 rfl
theorem SymD.beq_ne {x k : SymD} (h : x ≠ k) : ¬ x.beq k = true := fun e => h ((SymD.beq_iff x k).1 e)
structure CntI (pre : List SymD) (ys : List PgSI) : Prop where
  srt : Srt PgSI.cmp ys
  len : ys.length ≤ pre.length
  mem : ∀ y, y ∈ ys ↔ (0 < cnt pre y.k ∧ y.v = (cnt pre y.k : Int))
  sum : (ys.map PgSI.v).sum = (pre.length : Int)
theorem PgSI.cmp_key {y : PgSI} {k : SymD} {v : Int} : PgSI.cmp y ⟨k, v⟩ = 0 ↔ y.k = k :=
  ⟨fun h => SymD.cmp_zero h, fun h => by show SymD.cmp y.k k = 0; rw [h]; exact linSym.refl k⟩
theorem CntI.nil : CntI [] [] := ⟨fun i j a b _ h => by simp at h, Nat.le_refl _, fun y => by simp [cnt], by simp⟩
theorem CntI.get {pre : List SymD} {ys : List PgSI} (h : CntI pre ys) (k : SymD) (v : Int) : getM PgSI.cmp ys ⟨k, v⟩ = if cnt pre k = 0 then none else some ⟨k, (cnt pre k : Int)⟩ := by
  cases hg : getM PgSI.cmp ys ⟨k, v⟩ with
  | none =>
    by_cases e : cnt pre k = 0
    · rw [if_pos e]
    · exfalso
      have hm := (h.mem ⟨k, (cnt pre k : Int)⟩).2 ⟨by show 0 < cnt pre k; omega, rfl⟩
      have := List.find?_eq_none.1 hg _ hm
      simp at this
      exact this (PgSI.cmp_key.2 rfl)
  | some y =>
    have h1 : PgSI.cmp y ⟨k, v⟩ = 0 := by simpa using List.find?_some hg
    have h2 := (h.mem y).1 (List.mem_of_find?_eq_some hg)
    have h3 := PgSI.cmp_key.1 h1
    obtain ⟨yk, yv⟩ := y
    dsimp only at h3 h2
    subst h3
    rw [if_neg (by omega), h2.2]
theorem CntI.step {pre : List SymD} {ys : List PgSI} (h : CntI pre ys) (x : SymD) {i : Nat} {there : Bool} (hf : FindR PgSI.cmp ys ⟨x, (cnt pre x : Int) + 1⟩ i there) :
    CntI (pre ++ [x]) (cond there (ys.set i ⟨(ys[i]?.map (·.k)).getD x, (cnt pre x : Int) + 1⟩) (ys.take i ++ ⟨x, (cnt pre x : Int) + 1⟩ :: ys.drop i)) := by
  cases there with
  | false =>
    have hno : ∀ y ∈ ys, y.k ≠ x := fun y hy e => by
      obtain ⟨j, hj⟩ := List.mem_iff_getElem?.1 hy
      obtain ⟨h1, h2⟩ := hf.2.2 rfl
      have hz : PgSI.cmp y ⟨x, (cnt pre x : Int) + 1⟩ = 0 := PgSI.cmp_key.2 e
      by_cases hji : j < i
      · have := h1 j y hji hj; omega
      · have := h2 j y (by omega) hj; omega
    have h0 : cnt pre x = 0 := by
      by_cases e : cnt pre x = 0
      · exact e
      · exact absurd rfl (hno ⟨x, (cnt pre x : Int)⟩ ((h.mem _).2 ⟨by show 0 < cnt pre x; omega, rfl⟩))
    refine ⟨Srt.ins PgSI.lin h.srt hf, ?_, fun y => ?_, ?_⟩
    · have := h.len; have := hf.1; simp; omega
    · have hmem : y ∈ ys.take i ++ ⟨x, (cnt pre x : Int) + 1⟩ :: ys.drop i ↔ y = ⟨x, (cnt pre x : Int) + 1⟩ ∨ y ∈ ys := by
        conv => rhs; rw [← List.take_append_drop i ys]
        simp only [List.mem_append, List.mem_cons]
        constructor
        · rintro (h | h | h)
          · exact .inr (.inl h)
          · exact .inl h
          · exact .inr (.inr h)
        · rintro (h | h | h)
          · exact .inr (.inl h)
          · exact .inl h
          · exact .inr (.inr h)
      rw [cond_false, hmem, cnt_snoc]
      by_cases e : x = y.k
      · rw [← e, if_pos (SymD.beq_self x), h0]
        constructor
        · rintro (rfl | hy)
          · simp
          · exact absurd e.symm (hno y hy)
        · rintro ⟨_, hv⟩
          left
          obtain ⟨yk, yv⟩ := y
          dsimp only at e hv
          subst e
          simp at hv
          rw [hv]; rfl
      · rw [if_neg (SymD.beq_ne e), Nat.add_zero, ← h.mem]
        constructor
        · rintro (rfl | hy)
          · exact absurd rfl e
          · exact hy
        · exact .inr
    · rw [cond_false, List.map_append, List.map_cons, List.sum_append, List.sum_cons, h0]
      have hs := h.sum
      rw [← List.take_append_drop i ys, List.map_append, List.sum_append] at hs
      simp only [List.map_take, List.map_drop] at hs ⊢
      simp
      omega
  | true =>
    obtain ⟨y0, hy0, hc⟩ := hf.2.1 rfl
    have hk : y0.k = x := PgSI.cmp_key.1 hc
    have hi : i < ys.length := (List.getElem?_eq_some_iff.1 hy0).1
    have hv0 : y0.v = (cnt pre x : Int) := by have := ((h.mem y0).1 (List.mem_of_getElem? hy0)).2; rw [hk] at this; exact this
    rw [cond_true, hy0]
    simp only [Option.map_some, Option.getD_some, hk]
    refine ⟨Srt.set PgSI.lin h.srt hy0 (PgSI.cmp_key.2 hk), by have := h.len; simp; omega, fun y => ?_, ?_⟩
    · rw [cnt_snoc, List.mem_iff_getElem?]
      by_cases e : x = y.k
      · rw [← e, if_pos (SymD.beq_self x)]
        constructor
        · rintro ⟨j, hj⟩
          rw [List.getElem?_set] at hj
          by_cases hji : i = j
          · rw [if_pos hji, if_pos (by omega)] at hj
            cases hj
            exact ⟨by omega, by simp⟩
          · rw [if_neg hji] at hj
            have hz : PgSI.cmp y y0 = 0 := by show SymD.cmp y.k y0.k = 0; rw [← e, hk]; exact linSym.refl x
            exfalso
            by_cases hlt : j < i
            · have := h.srt j i y y0 hlt hj hy0; omega
            · have h1 := h.srt i j y0 y (by omega) hy0 hj
              have := PgSI.lin.swap y y0
              omega
        · rintro ⟨_, hv⟩
          refine ⟨i, ?_⟩
          rw [List.getElem?_set, if_pos rfl, if_pos hi]
          obtain ⟨yk, yv⟩ := y
          dsimp only at e hv
          subst e
          rw [hv]; simp
      · rw [if_neg (SymD.beq_ne e), Nat.add_zero, ← h.mem, List.mem_iff_getElem?]
        constructor
        · rintro ⟨j, hj⟩
          rw [List.getElem?_set] at hj
          by_cases hji : i = j
          · rw [if_pos hji, if_pos (by omega)] at hj
            cases hj
            exact absurd rfl e
          · rw [if_neg hji] at hj
            exact ⟨j, hj⟩
        · rintro ⟨j, hj⟩
          refine ⟨j, ?_⟩
          rw [List.getElem?_set, if_neg]
          · exact hj
          · intro hij
            subst hij
            rw [hy0] at hj
            cases hj
            exact e hk.symm
    · have hs := h.sum
      rw [List.set_eq_take_append_cons_drop, if_pos hi]
      have hsp : ys = ys.take i ++ y0 :: ys.drop (i + 1) := by
        have h2 : ys.drop i = y0 :: ys.drop (i + 1) := by
          rw [List.drop_eq_getElem_cons hi]
          rw [List.getElem?_eq_getElem hi] at hy0
          cases hy0; rfl
        rw [← h2, List.take_append_drop]
      rw [hsp, List.map_append, List.map_cons, List.sum_append, List.sum_cons, hv0] at hs
      rw [List.map_append, List.map_cons, List.sum_append, List.sum_cons]
      simp only [List.map_take, List.map_drop] at hs ⊢
      simp
      omega
end Go.Proofs.Ytfhkhghjlhohdaa
/- The reference's order of symbols; a symbol put into a list in that order. -/
namespace Go.Proofs.Ytfhkhghjlhohdaa
open Go Go.Sl
attribute [local irreducible] Code.wpIn roundPost bodyPostM runL Ret Meets Begin

theorem G.room {w0 : World} {A : SProp} {L : List SProp} {Φ : World → Prop} {α : Type} {enc : α → List Value} {sz : Nat} {xs : List α} {S : Option Addr} {e : TypeId} {c : Nat} (h : xs.length ≤ c → G w0 A (osl e enc sz S c xs :: L) Φ) : G w0 A (osl e enc sz S c xs :: L) Φ :=
  fun w hw hh => h (osl_room (hh.ent (Ent.swap _ _ _))) w hw hh
/-- A symbol's place in a list. -/
def PosR (l : List SymD) (s : SymD) (i : Nat) : Prop := i ≤ l.length ∧ (∀ (j : Nat) (y : SymD), j < i → l[j]? = some y → y.cmp s < 0) ∧ ∀ y, l[i]? = some y → ¬ y.cmp s < 0
open Classical in
theorem Put04_spec (K : Option Addr) (n c : Nat) (l : List SymD) (s : SymD) (hl : l.length = n) (hc : n ≤ c) (hm : n ≤ 100000) : Ctr Try.prog 38 [.slice K n c, s.val] [psl encS 3 K l]
    (fun v M => ∃ i T d l', PosR l s i ∧ l' = (if l[i]? = some s then l else l.take i ++ s :: l.drop i) ∧ l'.length ≤ d ∧ v = .slice T l'.length d ∧ M = [psl encS 3 T l']) := by
  refine spec_of Try.func38 rfl Try.ntmps38 rfl fun w0 F => ?_
  repeat (first | refine g_endt ?_ | refine g_end ?_ | refine g_then ?_ | refine g_in_normal ?_ | refine g_then_ret ?_ | refine g_in_ret ?_ | refine g_then_exit ?_ | refine g_in_exit rfl ?_ | refine g_in_exit_ne (by decide) ?_ | refine g_seq ?_ | refine g_region ?_ | refine g_block ?_ | refine g_ret ?_ | refine g_return_n ?_ | refine g_exit ?_ | refine g_skip ?_)
  refine o_boxc s.val.cells rfl rfl fun q => ?_
  refine o_assign ?_
  refine g_endt ?_
  repeat (first | refine g_endt ?_ | refine g_end ?_ | refine g_then ?_ | refine g_in_normal ?_ | refine g_then_ret ?_ | refine g_in_ret ?_ | refine g_then_exit ?_ | refine g_in_exit rfl ?_ | refine g_in_exit_ne (by decide) ?_ | refine g_seq ?_ | refine g_region ?_ | refine g_block ?_ | refine g_ret ?_ | refine g_return_n ?_ | refine g_exit ?_ | refine g_skip ?_)
  refine o_assign ?_
  refine g_endt ?_
  repeat (first | refine g_endt ?_ | refine g_end ?_ | refine g_then ?_ | refine g_in_normal ?_ | refine g_then_ret ?_ | refine g_in_ret ?_ | refine g_then_exit ?_ | refine g_in_exit rfl ?_ | refine g_in_exit_ne (by decide) ?_ | refine g_seq ?_ | refine g_region ?_ | refine g_block ?_ | refine g_ret ?_ | refine g_return_n ?_ | refine g_exit ?_ | refine g_skip ?_)
  refine g_cutb (σ := Nat) (ds' := []) (T := fun i => [(0, .slice K n c), (3, .pointer (some ⟨q, 0, none⟩)), (5, .int .i64 (i : Int))]) (H := fun _ => [psl encS 3 K l, cellsB q s.val.cells 25]) (ok := fun i => PosR l s i) ?_ ?_
  · refine g_loop (σ := {i : Nat // i ≤ n ∧ ∀ (j : Nat) (y : SymD), j < i → l[j]? = some y → y.cmp s < 0}) (S := fun i => [(0, .slice K n c), (3, .pointer (some ⟨q, 0, none⟩)), (5, .int .i64 (i.1 : Int))])
      (H := fun _ => [psl encS 3 K l, cellsB q s.val.cells 25]) (μ := fun i => n - i.1) (s0 := ⟨0, Nat.zero_le _, fun j y h => absurd h (Nat.not_lt_zero j)⟩) (Sat.mem ⟨rfl, rfl, rfl, trivial⟩) ?_
    rintro ⟨i, hi, hlow⟩ ρ'
    dsimp only at hi hlow ⊢
    repeat (first | refine g_endt ?_ | refine g_end ?_ | refine g_then ?_ | refine g_in_normal ?_ | refine g_then_ret ?_ | refine g_in_ret ?_ | refine g_then_exit ?_ | refine g_in_exit rfl ?_ | refine g_in_exit_ne (by decide) ?_ | refine g_seq ?_ | refine g_region ?_ | refine g_block ?_ | refine g_ret ?_ | refine g_return_n ?_ | refine g_exit ?_ | refine g_skip ?_)
    by_cases h : i < n
    · have hi' : i < l.length := by omega
      obtain ⟨y, hy⟩ : ∃ y, l[i]? = some y := ⟨_, List.getElem?_eq_getElem hi'⟩
      refine g_draw [] [0,1,2,3,4,5,6,7,8,9,10,11] [psl encS 3 K l, cellsB q s.val.cells 25] mixed rfl ?_
      refine ob_q rfl rfl ⟨_, fun X Q h => o_move (g_end (h _ _ ⟨rfl, rfl⟩)), ?_⟩
      refine ob_q rfl rfl ⟨_, fun X Q h => o_move (g_end (h _ _ ⟨rfl, rfl⟩)), ?_⟩
      refine ob_q rfl rfl ⟨_, fun X Q h => o_len rfl rfl (g_end (h _ _ ⟨rfl, rfl⟩)), ?_⟩
      refine ob_q rfl rfl ⟨_, fun X Q h => o_lss rfl rfl (g_end (h _ _ ⟨rfl, rfl⟩)), ?_⟩
      rw [show decide ((i : Int) < (n : Int)) = true from decide_eq_true (by omega)]
      refine ob_q rfl rfl ⟨_, fun X Q h => o_move (g_end (h _ _ ⟨rfl, rfl⟩)), ?_⟩
      refine ob_q rfl rfl ⟨_, fun X Q h => o_want rfl rfl rfl rfl rfl <| o_move (g_end (h _ _ ⟨rfl, rfl⟩)), ?_⟩
      refine ob_q rfl rfl ⟨_, fun X Q h => o_want rfl rfl rfl rfl rfl <| o_move (g_end (h _ _ ⟨rfl, rfl⟩)), ?_⟩
      refine ob_q rfl rfl ⟨_, fun X Q h => o_want rfl rfl rfl rfl rfl <| o_indexR (ys := l) (i := i) rfl rfl rfl hi' hl rfl (g_end (h _ _ ⟨rfl, rfl⟩)), ?_⟩
      refine ob_q rfl rfl ⟨_, fun X Q h => o_want rfl rfl rfl rfl rfl <| o_loadE (ys := l) rfl rfl hy (g_end (h _ _ ⟨rfl, rfl⟩)), ?_⟩
      refine ob_q rfl rfl ⟨_, fun X Q h => o_want rfl rfl rfl rfl rfl <| o_loadN (v := s.val) rfl rfl rfl (g_end (h _ _ ⟨rfl, rfl⟩)), ?_⟩
      refine ob_q rfl rfl ⟨_, fun X Q h => o_want rfl rfl rfl rfl rfl <| o_call (Before_spec y s) rfl rfl <| by rintro _ _ ⟨rfl, rfl⟩; exact (g_end (h _ _ ⟨rfl, rfl⟩)), ?_⟩
      refine ob_q rfl rfl ⟨_, fun X Q h => o_pick_t rfl rfl (g_end (h _ _ ⟨rfl, rfl⟩)), ?_⟩
      refine ob_nil ?_
      by_cases hlt : y.cmp s < 0
      · first | refine g_seq (g_cond_t rfl (by simpa using hlt) ?_) | refine g_cond_t rfl (by simpa using hlt) ?_
        repeat (first | refine g_endt ?_ | refine g_end ?_ | refine g_then ?_ | refine g_in_normal ?_ | refine g_then_ret ?_ | refine g_in_ret ?_ | refine g_then_exit ?_ | refine g_in_exit rfl ?_ | refine g_in_exit_ne (by decide) ?_ | refine g_seq ?_ | refine g_region ?_ | refine g_block ?_ | refine g_ret ?_ | refine g_return_n ?_ | refine g_exit ?_ | refine g_skip ?_)
        refine o_move ?_
        refine o_add (c := ((i + 1 : Nat) : Int)) rfl rfl (by omega) (by omega) (by omega) ?_
        refine o_assign ?_
        first | refine g_endt ?_ | refine g_end ?_
        repeat (first | refine g_endt ?_ | refine g_end ?_ | refine g_then ?_ | refine g_in_normal ?_ | refine g_then_ret ?_ | refine g_in_ret ?_ | refine g_then_exit ?_ | refine g_in_exit rfl ?_ | refine g_in_exit_ne (by decide) ?_ | refine g_seq ?_ | refine g_region ?_ | refine g_block ?_ | refine g_ret ?_ | refine g_return_n ?_ | refine g_exit ?_ | refine g_skip ?_)
        refine g_meets ⟨i + 1, h, fun j z hj hz => ?_⟩ (by show n - (i + 1) < n - i; omega) (Sat.mem ⟨rfl, rfl, rfl, trivial⟩)
        by_cases e : j = i
        · subst e; rw [hy] at hz; cases hz; exact hlt
        · exact hlow j z (by omega) hz
      · first | refine g_seq (g_cond_f rfl (by simpa using hlt) ?_) | refine g_cond_f rfl (by simpa using hlt) ?_
        repeat (first | refine g_endt ?_ | refine g_end ?_ | refine g_then ?_ | refine g_in_normal ?_ | refine g_then_ret ?_ | refine g_in_ret ?_ | refine g_then_exit ?_ | refine g_in_exit rfl ?_ | refine g_in_exit_ne (by decide) ?_ | refine g_seq ?_ | refine g_region ?_ | refine g_block ?_ | refine g_ret ?_ | refine g_return_n ?_ | refine g_exit ?_ | refine g_skip ?_)
        exact g_meets i ⟨by omega, hlow, fun z hz => by rw [hy] at hz; cases hz; exact hlt⟩ (Sat.mem ⟨rfl, rfl, rfl, trivial⟩)
    · refine g_draw [] [0,1,2,3,4,5,6,7,8,9,10,11] [psl encS 3 K l, cellsB q s.val.cells 25] mixed rfl ?_
      refine ob_q rfl rfl ⟨_, fun X Q h => o_move (g_end (h _ _ ⟨rfl, rfl⟩)), ?_⟩
      refine ob_q rfl rfl ⟨_, fun X Q h => o_move (g_end (h _ _ ⟨rfl, rfl⟩)), ?_⟩
      refine ob_q rfl rfl ⟨_, fun X Q h => o_len rfl rfl (g_end (h _ _ ⟨rfl, rfl⟩)), ?_⟩
      refine ob_q rfl rfl ⟨_, fun X Q h => o_lss rfl rfl (g_end (h _ _ ⟨rfl, rfl⟩)), ?_⟩
      rw [show decide ((i : Int) < (n : Int)) = false from decide_eq_false (by omega)]
      refine ob_q rfl rfl ⟨_, fun X Q h => o_move (g_end (h _ _ ⟨rfl, rfl⟩)), ?_⟩
      refine ob_q rfl rfl ⟨_, fun X Q h => o_unwanted rfl rfl rfl rfl rfl (g_end (h _ _ ⟨rfl, rfl⟩)), ?_⟩
      refine ob_q rfl rfl ⟨_, fun X Q h => o_unwanted rfl rfl rfl rfl rfl (g_end (h _ _ ⟨rfl, rfl⟩)), ?_⟩
      refine ob_q rfl rfl ⟨_, fun X Q h => o_unwanted rfl rfl rfl rfl rfl (g_end (h _ _ ⟨rfl, rfl⟩)), ?_⟩
      refine ob_q rfl rfl ⟨_, fun X Q h => o_unwanted rfl rfl rfl rfl rfl (g_end (h _ _ ⟨rfl, rfl⟩)), ?_⟩
      refine ob_q rfl rfl ⟨_, fun X Q h => o_unwanted rfl rfl rfl rfl rfl (g_end (h _ _ ⟨rfl, rfl⟩)), ?_⟩
      refine ob_q rfl rfl ⟨_, fun X Q h => o_unwanted rfl rfl rfl rfl rfl (g_end (h _ _ ⟨rfl, rfl⟩)), ?_⟩
      refine ob_q rfl rfl ⟨_, fun X Q h => o_pick_f rfl rfl (g_end (h _ _ ⟨rfl, rfl⟩)), ?_⟩
      refine ob_nil ?_
      first | refine g_seq (g_cond_f rfl (rfl) ?_) | refine g_cond_f rfl (rfl) ?_
      repeat (first | refine g_endt ?_ | refine g_end ?_ | refine g_then ?_ | refine g_in_normal ?_ | refine g_then_ret ?_ | refine g_in_ret ?_ | refine g_then_exit ?_ | refine g_in_exit rfl ?_ | refine g_in_exit_ne (by decide) ?_ | refine g_seq ?_ | refine g_region ?_ | refine g_block ?_ | refine g_ret ?_ | refine g_return_n ?_ | refine g_exit ?_ | refine g_skip ?_)
      exact g_meets i ⟨by omega, hlow, fun z hz => by have := (List.getElem?_eq_some_iff.1 hz).1; omega⟩ (Sat.mem ⟨rfl, rfl, rfl, trivial⟩)
  · intro i ρ' hpos
    repeat (first | refine g_endt ?_ | refine g_end ?_ | refine g_then ?_ | refine g_in_normal ?_ | refine g_then_ret ?_ | refine g_in_ret ?_ | refine g_then_exit ?_ | refine g_in_exit rfl ?_ | refine g_in_exit_ne (by decide) ?_ | refine g_seq ?_ | refine g_region ?_ | refine g_block ?_ | refine g_ret ?_ | refine g_return_n ?_ | refine g_exit ?_ | refine g_skip ?_)
    refine g_cutk (σ := Unit) (ds' := []) (S := fun _ => [(0, .slice K n c), (3, .pointer (some ⟨q, 0, none⟩)), (5, .int .i64 (i : Int)), (32, .bool (decide (l[i]? = some s)))]) (H := fun _ => [psl encS 3 K l, cellsB q s.val.cells 25]) (ok := fun _ => True) ?_ ?_
    · by_cases h : i < n
      · have hi' : i < l.length := by omega
        obtain ⟨y, hy⟩ : ∃ y, l[i]? = some y := ⟨_, List.getElem?_eq_getElem hi'⟩
        have hb : decide (l[i]? = some s) = y.beq s := by
          rw [hy]
          cases hb : y.beq s
          · exact decide_eq_false fun e => by cases e; rw [SymD.beq_self] at hb; cases hb
          · exact decide_eq_true (by rw [(SymD.beq_iff y s).1 hb])
        rw [hb]
        refine g_draw [] [0,1,2,3,4,5,6,7,8,9,10,11] [psl encS 3 K l, cellsB q s.val.cells 25] mixed rfl ?_
        refine ob_q rfl rfl ⟨_, fun X Q h => o_move (g_end (h _ _ ⟨rfl, rfl⟩)), ?_⟩
        refine ob_q rfl rfl ⟨_, fun X Q h => o_move (g_end (h _ _ ⟨rfl, rfl⟩)), ?_⟩
        refine ob_q rfl rfl ⟨_, fun X Q h => o_len rfl rfl (g_end (h _ _ ⟨rfl, rfl⟩)), ?_⟩
        refine ob_q rfl rfl ⟨_, fun X Q h => o_lss rfl rfl (g_end (h _ _ ⟨rfl, rfl⟩)), ?_⟩
        rw [show decide ((i : Int) < (n : Int)) = true from decide_eq_true (by omega)]
        refine ob_q rfl rfl ⟨_, fun X Q h => o_move (g_end (h _ _ ⟨rfl, rfl⟩)), ?_⟩
        refine ob_q rfl rfl ⟨_, fun X Q h => o_want rfl rfl rfl rfl rfl <| o_move (g_end (h _ _ ⟨rfl, rfl⟩)), ?_⟩
        refine ob_q rfl rfl ⟨_, fun X Q h => o_want rfl rfl rfl rfl rfl <| o_move (g_end (h _ _ ⟨rfl, rfl⟩)), ?_⟩
        refine ob_q rfl rfl ⟨_, fun X Q h => o_want rfl rfl rfl rfl rfl <| o_indexR (ys := l) (i := i) rfl rfl rfl hi' hl rfl (g_end (h _ _ ⟨rfl, rfl⟩)), ?_⟩
        refine ob_q rfl rfl ⟨_, fun X Q h => o_want rfl rfl rfl rfl rfl <| o_loadE (ys := l) rfl rfl hy (g_end (h _ _ ⟨rfl, rfl⟩)), ?_⟩
        refine ob_q rfl rfl ⟨_, fun X Q h => o_want rfl rfl rfl rfl rfl <| o_loadN (v := s.val) rfl rfl rfl (g_end (h _ _ ⟨rfl, rfl⟩)), ?_⟩
        refine ob_q rfl rfl ⟨_, fun X Q h => o_want rfl rfl rfl rfl rfl <| o_eqty rfl rfl (eq_sym y s) (g_end (h _ _ ⟨rfl, rfl⟩)), ?_⟩
        refine ob_q rfl rfl ⟨_, fun X Q h => o_pick_t rfl rfl (g_end (h _ _ ⟨rfl, rfl⟩)), ?_⟩
        refine ob_nil ?_
        exact g_meets () trivial (Sat.mem ⟨rfl, rfl, rfl, rfl, trivial⟩)
      · have hb : decide (l[i]? = some s) = false := decide_eq_false fun e => by have := (List.getElem?_eq_some_iff.1 e).1; omega
        rw [hb]
        refine g_draw [] [0,1,2,3,4,5,6,7,8,9,10,11] [psl encS 3 K l, cellsB q s.val.cells 25] mixed rfl ?_
        refine ob_q rfl rfl ⟨_, fun X Q h => o_move (g_end (h _ _ ⟨rfl, rfl⟩)), ?_⟩
        refine ob_q rfl rfl ⟨_, fun X Q h => o_move (g_end (h _ _ ⟨rfl, rfl⟩)), ?_⟩
        refine ob_q rfl rfl ⟨_, fun X Q h => o_len rfl rfl (g_end (h _ _ ⟨rfl, rfl⟩)), ?_⟩
        refine ob_q rfl rfl ⟨_, fun X Q h => o_lss rfl rfl (g_end (h _ _ ⟨rfl, rfl⟩)), ?_⟩
        rw [show decide ((i : Int) < (n : Int)) = false from decide_eq_false (by omega)]
        refine ob_q rfl rfl ⟨_, fun X Q h => o_move (g_end (h _ _ ⟨rfl, rfl⟩)), ?_⟩
        refine ob_q rfl rfl ⟨_, fun X Q h => o_unwanted rfl rfl rfl rfl rfl (g_end (h _ _ ⟨rfl, rfl⟩)), ?_⟩
        refine ob_q rfl rfl ⟨_, fun X Q h => o_unwanted rfl rfl rfl rfl rfl (g_end (h _ _ ⟨rfl, rfl⟩)), ?_⟩
        refine ob_q rfl rfl ⟨_, fun X Q h => o_unwanted rfl rfl rfl rfl rfl (g_end (h _ _ ⟨rfl, rfl⟩)), ?_⟩
        refine ob_q rfl rfl ⟨_, fun X Q h => o_unwanted rfl rfl rfl rfl rfl (g_end (h _ _ ⟨rfl, rfl⟩)), ?_⟩
        refine ob_q rfl rfl ⟨_, fun X Q h => o_unwanted rfl rfl rfl rfl rfl (g_end (h _ _ ⟨rfl, rfl⟩)), ?_⟩
        refine ob_q rfl rfl ⟨_, fun X Q h => o_unwanted rfl rfl rfl rfl rfl (g_end (h _ _ ⟨rfl, rfl⟩)), ?_⟩
        refine ob_q rfl rfl ⟨_, fun X Q h => o_pick_f rfl rfl (g_end (h _ _ ⟨rfl, rfl⟩)), ?_⟩
        refine ob_nil ?_
        exact g_meets () trivial (Sat.mem ⟨rfl, rfl, rfl, rfl, trivial⟩)
    · intro _ ρ2 _
      have hi : i ≤ l.length := hpos.1
      have hti : (l.take i).length = i := by simp; omega
      have hdi : (l.drop i).length = n - i := by simp; omega
      by_cases he : l[i]? = some s
      · first | refine g_seq (g_cond_t rfl (by simpa using he) ?_) | refine g_cond_t rfl (by simpa using he) ?_
        repeat (first | refine g_endt ?_ | refine g_end ?_ | refine g_then ?_ | refine g_in_normal ?_ | refine g_then_ret ?_ | refine g_in_ret ?_ | refine g_then_exit ?_ | refine g_in_exit rfl ?_ | refine g_in_exit_ne (by decide) ?_ | refine g_seq ?_ | refine g_region ?_ | refine g_block ?_ | refine g_ret ?_ | refine g_return_n ?_ | refine g_exit ?_ | refine g_skip ?_)
        refine o_move ?_
        refine o_assign ?_
        refine g_endt ?_
        repeat (first | refine g_endt ?_ | refine g_end ?_ | refine g_then ?_ | refine g_in_normal ?_ | refine g_then_ret ?_ | refine g_in_ret ?_ | refine g_then_exit ?_ | refine g_in_exit rfl ?_ | refine g_in_exit_ne (by decide) ?_ | refine g_seq ?_ | refine g_region ?_ | refine g_block ?_ | refine g_ret ?_ | refine g_return_n ?_ | refine g_exit ?_ | refine g_skip ?_)
        exact ret1 (K := [psl encS 3 K l]) rfl (resT rfl) ⟨i, K, c, l, hpos, (if_pos he).symm, by omega, by rw [hl]; rfl, rfl⟩
      · first | refine g_seq (g_cond_f rfl (by simpa using he) ?_) | refine g_cond_f rfl (by simpa using he) ?_
        repeat (first | refine g_endt ?_ | refine g_end ?_ | refine g_then ?_ | refine g_in_normal ?_ | refine g_then_ret ?_ | refine g_in_ret ?_ | refine g_then_exit ?_ | refine g_in_exit rfl ?_ | refine g_in_exit_ne (by decide) ?_ | refine g_seq ?_ | refine g_region ?_ | refine g_block ?_ | refine g_ret ?_ | refine g_return_n ?_ | refine g_exit ?_ | refine g_skip ?_)
        refine o_move ?_
        refine o_move ?_
        refine o_uptoP (k := i) rfl rfl rfl (by omega) ?_
        refine G.taken (S := K) (xs := l) (enc := encS) (sz := 3) i ?_
        refine G.nil_slice 25 encS 3 ?_
        refine o_append0 (ys := l.take i) rfl rfl rfl rfl hti (by rw [hti]; simp [maxLen]; omega) (by rw [hti]; omega) fun S2 c2 => ?_
        refine o_assign ?_
        refine g_endt ?_
        repeat (first | refine g_endt ?_ | refine g_end ?_ | refine g_then ?_ | refine g_in_normal ?_ | refine g_then_ret ?_ | refine g_in_ret ?_ | refine g_then_exit ?_ | refine g_in_exit rfl ?_ | refine g_in_exit_ne (by decide) ?_ | refine g_seq ?_ | refine g_region ?_ | refine g_block ?_ | refine g_ret ?_ | refine g_return_n ?_ | refine g_exit ?_ | refine g_skip ?_)
        refine o_move ?_
        refine o_loadN (v := s.val) rfl rfl rfl ?_
        refine o_slice_lit (e := 25) s.val.cells (fun w => by kernel_rfl) fun g => ?_
        refine G.lit_slice (enc := encS) (sz := 3) [s] (by simp [encS]) (by simp [maxLen]) ?_
        refine G.freeze_slice ?_
        refine o_append (xs := l.take i) (ys := [s]) (by rw [hti]; rfl) rfl rfl rfl rfl (fun _ => .inr trivial) (by simp [maxLen]; omega) (by simp; omega) fun S3 c3 => ?_
        refine o_assign ?_
        refine g_endt ?_
        repeat (first | refine g_endt ?_ | refine g_end ?_ | refine g_then ?_ | refine g_in_normal ?_ | refine g_then_ret ?_ | refine g_in_ret ?_ | refine g_then_exit ?_ | refine g_in_exit rfl ?_ | refine g_in_exit_ne (by decide) ?_ | refine g_seq ?_ | refine g_region ?_ | refine g_block ?_ | refine g_ret ?_ | refine g_return_n ?_ | refine g_exit ?_ | refine g_skip ?_)
        refine o_move ?_
        refine o_move ?_
        refine o_move ?_
        refine o_fromP (k := i) rfl rfl rfl (by omega) ?_
        refine G.dropped (S := K) (xs := l) (enc := encS) (sz := 3) c i (by omega) ?_
        refine o_append (xs := l.take i ++ [s]) (ys := l.drop i) (by simp only [List.length_append]; rfl) rfl rfl rfl hdi (fun _ => .inr trivial) (by simp [maxLen]; omega) (by simp; omega) fun S4 c4 => ?_
        refine o_assign ?_
        refine g_endt ?_
        rw [show l.take i ++ [s] ++ l.drop i = l.take i ++ s :: l.drop i by simp]
        refine G.room fun hroom => ?_
        refine G.freeze_slice ?_
        repeat (first | refine g_endt ?_ | refine g_end ?_ | refine g_then ?_ | refine g_in_normal ?_ | refine g_then_ret ?_ | refine g_in_ret ?_ | refine g_then_exit ?_ | refine g_in_exit rfl ?_ | refine g_in_exit_ne (by decide) ?_ | refine g_seq ?_ | refine g_region ?_ | refine g_block ?_ | refine g_ret ?_ | refine g_return_n ?_ | refine g_exit ?_ | refine g_skip ?_)
        exact ret1 (K := [psl encS 3 S4 (l.take i ++ s :: l.drop i)]) rfl (resT (v := .slice S4 ((l.take i ++ [s]).length + (l.drop i).length) c4) rfl) ⟨i, S4, c4, _, hpos, (if_neg he).symm, hroom, by simp; omega, rfl⟩
end Go.Proofs.Ytfhkhghjlhohdaa
/- The statements' own identifiers and words. -/
namespace Go.Proofs.Ytfhkhghjlhohdaa
open Go Go.Sl
attribute [local irreducible] Code.wpIn roundPost bodyPostM runL Ret Meets Begin

def symI (t : ByteArray) (n : Int) : SymD := ⟨1, t, n⟩
def symW (t : ByteArray) : SymD := ⟨3, t, 0⟩
theorem I_spec (t : ByteArray) (n : Int) : Ctr Try.prog 30 [.string t, .int .i64 n] [] (fun v M => v = (symI t n).val ∧ M = []) := by
  refine spec_of Try.func30 rfl Try.ntmps30 rfl fun w0 F => ?_
  -- ponder/ponderlaw09.I
  repeat (first | refine g_endt ?_ | refine g_end ?_ | refine g_then ?_ | refine g_in_normal ?_ | refine g_then_ret ?_ | refine g_in_ret ?_ | refine g_then_exit ?_ | refine g_in_exit rfl ?_ | refine g_in_exit_ne (by decide) ?_ | refine g_seq ?_ | refine g_region ?_ | refine g_block ?_ | refine g_ret ?_ | refine g_return_n ?_ | refine g_exit ?_ | refine g_skip ?_)
  refine o_alloc fun r => ?_
  first | refine g_endt ?_ | refine g_end ?_
  repeat (first | refine g_endt ?_ | refine g_end ?_ | refine g_then ?_ | refine g_in_normal ?_ | refine g_then_ret ?_ | refine g_in_ret ?_ | refine g_then_exit ?_ | refine g_in_exit rfl ?_ | refine g_in_exit_ne (by decide) ?_ | refine g_seq ?_ | refine g_region ?_ | refine g_block ?_ | refine g_ret ?_ | refine g_return_n ?_ | refine g_exit ?_ | refine g_skip ?_)
  refine o_move ?_
  refine o_move ?_
  refine o_build ((symI t n).val) (fun w => by kernel_rfl) ?_
  refine o_store (v := (symI t n).val) rfl rfl rfl rfl rfl ?_
  first | refine g_endt ?_ | refine g_end ?_
  refine G.norm r (symI t n).val.cells rfl ?_
  repeat (first | refine g_endt ?_ | refine g_end ?_ | refine g_then ?_ | refine g_in_normal ?_ | refine g_then_ret ?_ | refine g_in_ret ?_ | refine g_then_exit ?_ | refine g_in_exit rfl ?_ | refine g_in_exit_ne (by decide) ?_ | refine g_seq ?_ | refine g_region ?_ | refine g_block ?_ | refine g_ret ?_ | refine g_return_n ?_ | refine g_exit ?_ | refine g_skip ?_)
  exact ret1 (K := []) rfl (resCN (v := (symI t n).val) rfl rfl rfl) ⟨rfl, rfl⟩
theorem W_spec (t : ByteArray) : Ctr Try.prog 31 [.string t] [] (fun v M => v = (symW t).val ∧ M = []) := by
  refine spec_of Try.func31 rfl Try.ntmps31 rfl fun w0 F => ?_
  -- ponder/ponderlaw09.W
  repeat (first | refine g_endt ?_ | refine g_end ?_ | refine g_then ?_ | refine g_in_normal ?_ | refine g_then_ret ?_ | refine g_in_ret ?_ | refine g_then_exit ?_ | refine g_in_exit rfl ?_ | refine g_in_exit_ne (by decide) ?_ | refine g_seq ?_ | refine g_region ?_ | refine g_block ?_ | refine g_ret ?_ | refine g_return_n ?_ | refine g_exit ?_ | refine g_skip ?_)
  refine o_alloc fun r => ?_
  first | refine g_endt ?_ | refine g_end ?_
  repeat (first | refine g_endt ?_ | refine g_end ?_ | refine g_then ?_ | refine g_in_normal ?_ | refine g_then_ret ?_ | refine g_in_ret ?_ | refine g_then_exit ?_ | refine g_in_exit rfl ?_ | refine g_in_exit_ne (by decide) ?_ | refine g_seq ?_ | refine g_region ?_ | refine g_block ?_ | refine g_ret ?_ | refine g_return_n ?_ | refine g_exit ?_ | refine g_skip ?_)
  refine o_move ?_
  refine o_build ((symW t).val) (fun w => by kernel_rfl) ?_
  refine o_store (v := (symW t).val) rfl rfl rfl rfl rfl ?_
  first | refine g_endt ?_ | refine g_end ?_
  refine G.norm r (symW t).val.cells rfl ?_
  repeat (first | refine g_endt ?_ | refine g_end ?_ | refine g_then ?_ | refine g_in_normal ?_ | refine g_then_ret ?_ | refine g_in_ret ?_ | refine g_then_exit ?_ | refine g_in_exit rfl ?_ | refine g_in_exit_ne (by decide) ?_ | refine g_seq ?_ | refine g_region ?_ | refine g_block ?_ | refine g_ret ?_ | refine g_return_n ?_ | refine g_exit ?_ | refine g_skip ?_)
  exact ret1 (K := []) rfl (resCN (v := (symW t).val) rfl rfl rfl) ⟨rfl, rfl⟩
end Go.Proofs.Ytfhkhghjlhohdaa
/- Are elements few, and their texts short? -/
namespace Go.Proofs.Ytfhkhghjlhohdaa
open Go Go.Sl
attribute [local irreducible] Code.wpIn roundPost bodyPostM runL Ret Meets Begin

/-- Are the texts of an element short? -/
def shortE (e : ElemD) : Bool := decide (e.id.text.size ≤ 100) && decide (e.attr.text.size ≤ 100) && decide (e.value.text.size ≤ 100)
def lightE (l : List ElemD) (most : Nat) : Bool := decide (l.length ≤ most) && l.all shortE
theorem light_spec (A : Option Addr) (n c most : Nat) (l : List ElemD) (hl : l.length = n) (hm : n ≤ 9223372036854775807) (hk : most ≤ 1000000) : Ctr Try.prog 29 [.slice A n c, .int .i64 (most : Int)] [psl encE 12 A l] (fun v M => v = .bool (lightE l most) ∧ M = []) := by
  refine spec_of Try.func29 rfl Try.ntmps29 rfl fun w0 F => ?_
  -- ponder/ponderlaw10.light
  repeat (first | refine g_endt ?_ | refine g_end ?_ | refine g_then ?_ | refine g_in_normal ?_ | refine g_then_ret ?_ | refine g_in_ret ?_ | refine g_then_exit ?_ | refine g_in_exit rfl ?_ | refine g_in_exit_ne (by decide) ?_ | refine g_seq ?_ | refine g_region ?_ | refine g_block ?_ | refine g_ret ?_ | refine g_return_n ?_ | refine g_exit ?_ | refine g_skip ?_)
  refine o_assign ?_
  first | refine g_endt ?_ | refine g_end ?_
  repeat (first | refine g_endt ?_ | refine g_end ?_ | refine g_then ?_ | refine g_in_normal ?_ | refine g_then_ret ?_ | refine g_in_ret ?_ | refine g_then_exit ?_ | refine g_in_exit rfl ?_ | refine g_in_exit_ne (by decide) ?_ | refine g_seq ?_ | refine g_region ?_ | refine g_block ?_ | refine g_ret ?_ | refine g_return_n ?_ | refine g_exit ?_ | refine g_skip ?_)
  refine o_move ?_
  refine o_len rfl rfl ?_
  refine o_move ?_
  refine o_gtr rfl rfl ?_
  first | refine g_endt ?_ | refine g_end ?_
  by_cases h1 : most < n
  · first | refine g_seq (g_cond_t rfl (by first | rfl | (simp; done) | (simp; omega) | (simp; assumption)) ?_) | refine g_cond_t rfl (by first | rfl | (simp; done) | (simp; omega) | (simp; assumption)) ?_
    repeat (first | refine g_endt ?_ | refine g_end ?_ | refine g_then ?_ | refine g_in_normal ?_ | refine g_then_ret ?_ | refine g_in_ret ?_ | refine g_then_exit ?_ | refine g_in_exit rfl ?_ | refine g_in_exit_ne (by decide) ?_ | refine g_seq ?_ | refine g_region ?_ | refine g_block ?_ | refine g_ret ?_ | refine g_return_n ?_ | refine g_exit ?_ | refine g_skip ?_)
    refine o_assign ?_
    first | refine g_endt ?_ | refine g_end ?_
    repeat (first | refine g_endt ?_ | refine g_end ?_ | refine g_then ?_ | refine g_in_normal ?_ | refine g_then_ret ?_ | refine g_in_ret ?_ | refine g_then_exit ?_ | refine g_in_exit rfl ?_ | refine g_in_exit_ne (by decide) ?_ | refine g_seq ?_ | refine g_region ?_ | refine g_block ?_ | refine g_ret ?_ | refine g_return_n ?_ | refine g_exit ?_ | refine g_skip ?_)
    exact ret1 (K := []) rfl (resT (v := .bool false) rfl) ⟨by rw [lightE, decide_eq_false (by omega), Bool.false_and], rfl⟩
  first | refine g_seq (g_cond_f rfl (by simp; omega) ?_) | refine g_cond_f rfl (by simp; omega) ?_
  repeat (first | refine g_endt ?_ | refine g_end ?_ | refine g_then ?_ | refine g_in_normal ?_ | refine g_then_ret ?_ | refine g_in_ret ?_ | refine g_then_exit ?_ | refine g_in_exit rfl ?_ | refine g_in_exit_ne (by decide) ?_ | refine g_seq ?_ | refine g_region ?_ | refine g_block ?_ | refine g_ret ?_ | refine g_return_n ?_ | refine g_exit ?_ | refine g_skip ?_)
  refine o_assign ?_
  first | refine g_endt ?_ | refine g_end ?_
  repeat (first | refine g_endt ?_ | refine g_end ?_ | refine g_then ?_ | refine g_in_normal ?_ | refine g_then_ret ?_ | refine g_in_ret ?_ | refine g_then_exit ?_ | refine g_in_exit rfl ?_ | refine g_in_exit_ne (by decide) ?_ | refine g_seq ?_ | refine g_region ?_ | refine g_block ?_ | refine g_ret ?_ | refine g_return_n ?_ | refine g_exit ?_ | refine g_skip ?_)
  refine g_loop (σ := {i : Nat // i ≤ n ∧ ∀ (j : Nat) (y : ElemD), j < i → l[j]? = some y → shortE y = true}) (S := fun i => [(0, .slice A n c), (5, .int .i64 (i.1 : Int))]) (H := fun _ => [psl encE 12 A l]) (μ := fun i => n - i.1)
    (s0 := ⟨0, Nat.zero_le _, fun j y hj => absurd hj (Nat.not_lt_zero j)⟩) (Sat.mem ⟨rfl, rfl, trivial⟩) ?_
  rintro ⟨i, hi, hb⟩ ρ2
  dsimp only at hi hb ⊢
  repeat (first | refine g_endt ?_ | refine g_end ?_ | refine g_then ?_ | refine g_in_normal ?_ | refine g_then_ret ?_ | refine g_in_ret ?_ | refine g_then_exit ?_ | refine g_in_exit rfl ?_ | refine g_in_exit_ne (by decide) ?_ | refine g_seq ?_ | refine g_region ?_ | refine g_block ?_ | refine g_ret ?_ | refine g_return_n ?_ | refine g_exit ?_ | refine g_skip ?_)
  refine o_move ?_
  refine o_move ?_
  refine o_len rfl rfl ?_
  refine o_lss rfl rfl ?_
  first | refine g_endt ?_ | refine g_end ?_
  by_cases h : i < n
  · first | refine g_seq (g_cond_t rfl (by first | rfl | (simp; done) | (simp; omega) | (simp; assumption)) ?_) | refine g_cond_t rfl (by first | rfl | (simp; done) | (simp; omega) | (simp; assumption)) ?_
    obtain ⟨y, hy⟩ : ∃ y, l[i]? = some y := ⟨_, List.getElem?_eq_getElem (by omega)⟩
    have hil : i < l.length := by omega
    have hpos : 0 < l.length := by omega
    repeat (first | refine g_endt ?_ | refine g_end ?_ | refine g_then ?_ | refine g_in_normal ?_ | refine g_then_ret ?_ | refine g_in_ret ?_ | refine g_then_exit ?_ | refine g_in_exit rfl ?_ | refine g_in_exit_ne (by decide) ?_ | refine g_seq ?_ | refine g_block ?_ | refine g_ret ?_ | refine g_return_n ?_ | refine g_exit ?_ | refine g_skip ?_)
    refine g_cutk (σ := Unit) (ds' := []) (S := fun _ => [(0, .slice A n c), (5, .int .i64 (i : Int)), (43, .bool (!shortE y))]) (H := fun _ => [psl encE 12 A l]) (ok := fun _ => True) ?_ ?_
    · skip
      repeat (first | refine g_endt ?_ | refine g_end ?_ | refine g_then ?_ | refine g_in_normal ?_ | refine g_then_ret ?_ | refine g_in_ret ?_ | refine g_then_exit ?_ | refine g_in_exit rfl ?_ | refine g_in_exit_ne (by decide) ?_ | refine g_seq ?_ | refine g_region ?_ | refine g_block ?_ | refine g_ret ?_ | refine g_return_n ?_ | refine g_exit ?_ | refine g_skip ?_)
      refine o_move ?_
      refine o_move ?_
      refine o_indexR (ys := l) (i := i) rfl rfl rfl hil hl rfl ?_
      refine o_fieldR rfl hpos ?_
      refine o_fieldR rfl hpos ?_
      refine o_loadE1 (off := 1) (ys := l) (v := .string y.id.text) rfl hy rfl ?_
      refine o_slen rfl rfl (by kernel_rfl) ?_
      refine o_gtr rfl rfl ?_
      refine o_moveB rfl (fun h8 => ?_) (fun h8 => ?_)
      · refine o_unwanted rfl rfl rfl rfl rfl ?_
        refine o_unwanted rfl rfl rfl rfl rfl ?_
        refine o_unwanted rfl rfl rfl rfl rfl ?_
        refine o_unwanted rfl rfl rfl rfl rfl ?_
        refine o_unwanted rfl rfl rfl rfl rfl ?_
        refine o_unwanted rfl rfl rfl rfl rfl ?_
        refine o_unwanted rfl rfl rfl rfl rfl ?_
        refine o_unwanted rfl rfl rfl rfl rfl ?_
        refine o_pick_t rfl rfl ?_
        refine o_move ?_
        refine o_unwanted rfl rfl rfl rfl rfl ?_
        refine o_unwanted rfl rfl rfl rfl rfl ?_
        refine o_unwanted rfl rfl rfl rfl rfl ?_
        refine o_unwanted rfl rfl rfl rfl rfl ?_
        refine o_unwanted rfl rfl rfl rfl rfl ?_
        refine o_unwanted rfl rfl rfl rfl rfl ?_
        refine o_unwanted rfl rfl rfl rfl rfl ?_
        refine o_unwanted rfl rfl rfl rfl rfl ?_
        refine o_pick_t rfl rfl ?_
        first | refine g_endt ?_ | refine g_end ?_
        refine g_meets () trivial (Sat.mem ⟨rfl, rfl, congrArg Value.bool ?_, trivial⟩)
        ((try (simp only [decide_eq_true_eq, decide_eq_false_iff_not, ge_iff_le, gt_iff_lt] at *)); unfold shortE; generalize y.id.text.size = m1 at *; generalize y.attr.text.size = m2 at *; generalize y.value.text.size = m3 at *; rw [Bool.eq_iff_iff]; simp <;> omega)
      · refine o_want rfl rfl rfl rfl rfl <| o_move ?_
        refine o_want rfl rfl rfl rfl rfl <| o_move ?_
        refine o_want rfl rfl rfl rfl rfl <| o_indexR (ys := l) (i := i) rfl rfl rfl hil hl rfl ?_
        refine o_want rfl rfl rfl rfl rfl <| o_fieldR rfl hpos ?_
        refine o_want rfl rfl rfl rfl rfl <| o_fieldR rfl hpos ?_
        refine o_want rfl rfl rfl rfl rfl <| o_loadE1 (off := 4) (ys := l) (v := .string y.attr.text) rfl hy rfl ?_
        refine o_want rfl rfl rfl rfl rfl <| o_slen rfl rfl (by kernel_rfl) ?_
        refine o_want rfl rfl rfl rfl rfl <| o_gtr rfl rfl ?_
        refine o_pick_f rfl rfl ?_
        refine o_moveB rfl (fun h18 => ?_) (fun h18 => ?_)
        · refine o_unwanted rfl rfl rfl rfl rfl ?_
          refine o_unwanted rfl rfl rfl rfl rfl ?_
          refine o_unwanted rfl rfl rfl rfl rfl ?_
          refine o_unwanted rfl rfl rfl rfl rfl ?_
          refine o_unwanted rfl rfl rfl rfl rfl ?_
          refine o_unwanted rfl rfl rfl rfl rfl ?_
          refine o_unwanted rfl rfl rfl rfl rfl ?_
          refine o_unwanted rfl rfl rfl rfl rfl ?_
          refine o_pick_t rfl rfl ?_
          first | refine g_endt ?_ | refine g_end ?_
          refine g_meets () trivial (Sat.mem ⟨rfl, rfl, congrArg Value.bool ?_, trivial⟩)
          ((try (simp only [decide_eq_true_eq, decide_eq_false_iff_not, ge_iff_le, gt_iff_lt] at *)); unfold shortE; generalize y.id.text.size = m1 at *; generalize y.attr.text.size = m2 at *; generalize y.value.text.size = m3 at *; rw [Bool.eq_iff_iff]; simp <;> omega)
        · refine o_want rfl rfl rfl rfl rfl <| o_move ?_
          refine o_want rfl rfl rfl rfl rfl <| o_move ?_
          refine o_want rfl rfl rfl rfl rfl <| o_indexR (ys := l) (i := i) rfl rfl rfl hil hl rfl ?_
          refine o_want rfl rfl rfl rfl rfl <| o_fieldR rfl hpos ?_
          refine o_want rfl rfl rfl rfl rfl <| o_fieldR rfl hpos ?_
          refine o_want rfl rfl rfl rfl rfl <| o_loadE1 (off := 7) (ys := l) (v := .string y.value.text) rfl hy rfl ?_
          refine o_want rfl rfl rfl rfl rfl <| o_slen rfl rfl (by kernel_rfl) ?_
          refine o_want rfl rfl rfl rfl rfl <| o_gtr rfl rfl ?_
          refine o_pick_f rfl rfl ?_
          first | refine g_endt ?_ | refine g_end ?_
          refine g_meets () trivial (Sat.mem ⟨rfl, rfl, congrArg Value.bool ?_, trivial⟩)
          ((try (simp only [decide_eq_true_eq, decide_eq_false_iff_not, ge_iff_le, gt_iff_lt] at *)); unfold shortE; generalize y.id.text.size = m1 at *; generalize y.attr.text.size = m2 at *; generalize y.value.text.size = m3 at *; rw [Bool.eq_iff_iff]; simp <;> omega)
    intro _ ρ3 _
    cases hc : shortE y with
    | false =>
      first | refine g_seq (g_cond_t rfl (by first | rfl | (simp; done) | (simp; omega) | (simp; assumption)) ?_) | refine g_cond_t rfl (by first | rfl | (simp; done) | (simp; omega) | (simp; assumption)) ?_
      repeat (first | refine g_endt ?_ | refine g_end ?_ | refine g_then ?_ | refine g_in_normal ?_ | refine g_then_ret ?_ | refine g_in_ret ?_ | refine g_then_exit ?_ | refine g_in_exit rfl ?_ | refine g_in_exit_ne (by decide) ?_ | refine g_seq ?_ | refine g_region ?_ | refine g_block ?_ | refine g_ret ?_ | refine g_return_n ?_ | refine g_exit ?_ | refine g_skip ?_)
      refine o_assign ?_
      first | refine g_endt ?_ | refine g_end ?_
      repeat (first | refine g_endt ?_ | refine g_end ?_ | refine g_then ?_ | refine g_in_normal ?_ | refine g_then_ret ?_ | refine g_in_ret ?_ | refine g_then_exit ?_ | refine g_in_exit rfl ?_ | refine g_in_exit_ne (by decide) ?_ | refine g_seq ?_ | refine g_region ?_ | refine g_block ?_ | refine g_ret ?_ | refine g_return_n ?_ | refine g_exit ?_ | refine g_skip ?_)
      exact ret1 (K := []) rfl (resT (v := .bool false) rfl) ⟨by
        rw [lightE, show l.all shortE = false from List.all_eq_false.2 ⟨y, List.mem_of_getElem? hy, by rw [hc]; simp⟩, Bool.and_false], rfl⟩
    | true =>
      first | refine g_seq (g_cond_f rfl (by first | rfl | (simp; done) | (simp; omega) | (simp; assumption)) ?_) | refine g_cond_f rfl (by first | rfl | (simp; done) | (simp; omega) | (simp; assumption)) ?_
      repeat (first | refine g_endt ?_ | refine g_end ?_ | refine g_then ?_ | refine g_in_normal ?_ | refine g_then_ret ?_ | refine g_in_ret ?_ | refine g_then_exit ?_ | refine g_in_exit rfl ?_ | refine g_in_exit_ne (by decide) ?_ | refine g_seq ?_ | refine g_region ?_ | refine g_block ?_ | refine g_ret ?_ | refine g_return_n ?_ | refine g_exit ?_ | refine g_skip ?_)
      refine o_move ?_
      refine o_add (c := ((i + 1 : Nat) : Int)) rfl rfl (by omega) (by omega) (by omega) ?_
      refine o_assign ?_
      first | refine g_endt ?_ | refine g_end ?_
      repeat (first | refine g_endt ?_ | refine g_end ?_ | refine g_then ?_ | refine g_in_normal ?_ | refine g_then_ret ?_ | refine g_in_ret ?_ | refine g_then_exit ?_ | refine g_in_exit rfl ?_ | refine g_in_exit_ne (by decide) ?_ | refine g_seq ?_ | refine g_region ?_ | refine g_block ?_ | refine g_ret ?_ | refine g_return_n ?_ | refine g_exit ?_ | refine g_skip ?_)
      have hn : ∀ (j : Nat) (z : ElemD), j < i + 1 → l[j]? = some z → shortE z = true := fun j z hj hz => by
        by_cases e : j = i
        · subst e; rw [hy] at hz; cases hz; exact hc
        · exact hb j z (by omega) hz
      exact g_meets (⟨i + 1, h, hn⟩) (by first | exact trivial | (dsimp only; omega)) (Sat.mem (by repeat (first | exact trivial | refine And.intro rfl ?_)))
  · first | refine g_seq (g_cond_f rfl (by simp; omega) ?_) | refine g_cond_f rfl (by simp; omega) ?_
    repeat (first | refine g_endt ?_ | refine g_end ?_ | refine g_then ?_ | refine g_in_normal ?_ | refine g_then_ret ?_ | refine g_in_ret ?_ | refine g_then_exit ?_ | refine g_in_exit rfl ?_ | refine g_in_exit_ne (by decide) ?_ | refine g_seq ?_ | refine g_region ?_ | refine g_block ?_ | refine g_ret ?_ | refine g_return_n ?_ | refine g_exit ?_ | refine g_skip ?_)
    refine o_assign ?_
    first | refine g_endt ?_ | refine g_end ?_
    repeat (first | refine g_endt ?_ | refine g_end ?_ | refine g_then ?_ | refine g_in_normal ?_ | refine g_then_ret ?_ | refine g_in_ret ?_ | refine g_then_exit ?_ | refine g_in_exit rfl ?_ | refine g_in_exit_ne (by decide) ?_ | refine g_seq ?_ | refine g_region ?_ | refine g_block ?_ | refine g_ret ?_ | refine g_return_n ?_ | refine g_exit ?_ | refine g_skip ?_)
    exact ret1 (K := []) rfl (resT (v := .bool true) rfl) ⟨by
      rw [lightE, decide_eq_true (by omega), Bool.true_and, List.all_eq_true.2 fun y hy => ?_]
      obtain ⟨j, hj⟩ := List.mem_iff_getElem?.1 hy
      exact hb j y (by have := (List.getElem?_eq_some_iff.1 hj).1; omega) hj, rfl⟩
theorem Light_spec (A : Option Addr) (n c most : Nat) (l : List ElemD) (hl : l.length = n) (hm : n ≤ 9223372036854775807) (hk : most ≤ 1000000) : Ctr Try.prog 9 [.slice A n c, .int .i64 (most : Int)] [psl encE 12 A l] (fun v M => v = .bool (lightE l most) ∧ M = []) := by
  refine spec_of Try.func9 rfl Try.ntmps9 rfl fun w0 F => ?_
  -- ponder/ponderlaw10.Light
  repeat (first | refine g_endt ?_ | refine g_end ?_ | refine g_then ?_ | refine g_in_normal ?_ | refine g_then_ret ?_ | refine g_in_ret ?_ | refine g_then_exit ?_ | refine g_in_exit rfl ?_ | refine g_in_exit_ne (by decide) ?_ | refine g_seq ?_ | refine g_region ?_ | refine g_block ?_ | refine g_ret ?_ | refine g_return_n ?_ | refine g_exit ?_ | refine g_skip ?_)
  refine o_assign ?_
  first | refine g_endt ?_ | refine g_end ?_
  repeat (first | refine g_endt ?_ | refine g_end ?_ | refine g_then ?_ | refine g_in_normal ?_ | refine g_then_ret ?_ | refine g_in_ret ?_ | refine g_then_exit ?_ | refine g_in_exit rfl ?_ | refine g_in_exit_ne (by decide) ?_ | refine g_seq ?_ | refine g_region ?_ | refine g_block ?_ | refine g_ret ?_ | refine g_return_n ?_ | refine g_exit ?_ | refine g_skip ?_)
  refine o_move ?_
  refine o_move ?_
  refine o_callp (light_spec A n c most l hl hm hk) rfl rfl ?_
  rintro _ _ ⟨rfl, rfl⟩
  refine o_assign ?_
  first | refine g_endt ?_ | refine g_end ?_
  repeat (first | refine g_endt ?_ | refine g_end ?_ | refine g_then ?_ | refine g_in_normal ?_ | refine g_then_ret ?_ | refine g_in_ret ?_ | refine g_then_exit ?_ | refine g_in_exit rfl ?_ | refine g_in_exit_ne (by decide) ?_ | refine g_seq ?_ | refine g_region ?_ | refine g_block ?_ | refine g_ret ?_ | refine g_return_n ?_ | refine g_exit ?_ | refine g_skip ?_)
  exact ret1 (K := []) rfl (resT rfl) ⟨rfl, rfl⟩
end Go.Proofs.Ytfhkhghjlhohdaa
/- A list told. -/
namespace Go.Proofs.Ytfhkhghjlhohdaa
open Go Go.Sl
attribute [local irreducible] Code.wpIn roundPost bodyPostM runL Ret Meets Begin

theorem Of1E_iter (b : Nat) (A : Option Addr) (len cap : Nat) (ys : List ElemD) (hl : ys.length = len) (hm : len ≤ 4611686018427387904) (J0 : List SProp) [HasP J0 (pblk b (.cells #[.slice A len cap] 23 (0, 0)))] [HasP J0 (psl encE 12 A ys)] :
    Iter Try.prog 36 [.pointer (some ⟨b, 0, none⟩)] encVE ys J0 := by
  intro l J Jx hJ hy
  refine spec_of Try.func36 rfl Try.ntmps36 rfl fun w0 F => ?_
  refine G.dup (pblk b (.cells #[.slice A len cap] 23 (0, 0))) ?_
  refine G.dup (psl encE 12 A ys) ?_
  subst hJ
  -- ponder/ponderkeep.Of[ponder/api.Elem]$1
  repeat (first | refine g_endt ?_ | refine g_end ?_ | refine g_then ?_ | refine g_in_normal ?_ | refine g_then_ret ?_ | refine g_in_ret ?_ | refine g_then_exit ?_ | refine g_in_exit rfl ?_ | refine g_in_exit_ne (by decide) ?_ | refine g_seq ?_ | refine g_region ?_ | refine g_block ?_ | refine g_ret ?_ | refine g_return_n ?_ | refine g_exit ?_ | refine g_skip ?_)
  refine o_assign ?_
  first | refine g_endt ?_ | refine g_end ?_
  repeat (first | refine g_endt ?_ | refine g_end ?_ | refine g_then ?_ | refine g_in_normal ?_ | refine g_then_ret ?_ | refine g_in_ret ?_ | refine g_then_exit ?_ | refine g_in_exit rfl ?_ | refine g_in_exit_ne (by decide) ?_ | refine g_seq ?_ | refine g_region ?_ | refine g_block ?_ | refine g_ret ?_ | refine g_return_n ?_ | refine g_exit ?_ | refine g_skip ?_)
  refine g_loop (σ := {i : Nat // i ≤ ys.length}) (S := fun i => [(0, .func (.yield l) #[] #[]), (1, .pointer (some ⟨b, 0, none⟩)), (3, .int .i64 ((i.1 : Nat) : Int))])
    (H := fun i => psl encE 12 A ys :: pblk b (.cells #[.slice A len cap] 23 (0, 0)) :: J (ys.take i.1)) (μ := fun i => ys.length - i.1) (s0 := ⟨0, Nat.zero_le _⟩) (Sat.mem ⟨rfl, rfl, rfl, trivial⟩) (t := by simp only [List.take_zero]; infer_instance) ?_
  rintro ⟨i, hi⟩ ρ'
  dsimp only
  repeat (first | refine g_endt ?_ | refine g_end ?_ | refine g_then ?_ | refine g_in_normal ?_ | refine g_then_ret ?_ | refine g_in_ret ?_ | refine g_then_exit ?_ | refine g_in_exit rfl ?_ | refine g_in_exit_ne (by decide) ?_ | refine g_seq ?_ | refine g_region ?_ | refine g_block ?_ | refine g_ret ?_ | refine g_return_n ?_ | refine g_exit ?_ | refine g_skip ?_)
  refine o_move ?_
  refine o_load1 (v := .slice A len cap) rfl rfl ?_
  refine o_len rfl rfl ?_
  refine o_lss rfl rfl ?_
  first | refine g_endt ?_ | refine g_end ?_
  by_cases h : i < len
  · first | refine g_seq (g_cond_t rfl (by first | rfl | (simp; done) | (simp; omega) | (simp; assumption)) ?_) | refine g_cond_t rfl (by first | rfl | (simp; done) | (simp; omega) | (simp; assumption)) ?_
    have hi' : i < ys.length := by omega
    obtain ⟨y, hz⟩ : ∃ y, ys[i]? = some y := ⟨_, List.getElem?_eq_getElem hi'⟩
    have ht := take_snoc ys i _ hz
    repeat (first | refine g_endt ?_ | refine g_end ?_ | refine g_then ?_ | refine g_in_normal ?_ | refine g_then_ret ?_ | refine g_in_ret ?_ | refine g_then_exit ?_ | refine g_in_exit rfl ?_ | refine g_in_exit_ne (by decide) ?_ | refine g_seq ?_ | refine g_region ?_ | refine g_block ?_ | refine g_ret ?_ | refine g_return_n ?_ | refine g_exit ?_ | refine g_skip ?_)
    refine o_move ?_
    refine o_load1 (v := .slice A len cap) rfl rfl ?_
    refine o_move ?_
    refine o_indexR rfl rfl rfl (by first | assumption | omega) (by first | rfl | assumption | omega) rfl ?_
    refine o_loadE (enc := encE) rfl rfl hz ?_
    have hp : (ys.take i ++ [y]) <+: ys := ⟨ys.drop (i + 1), by rw [← ht, List.take_append_drop]⟩
    refine o_yield (hy (ys.take i) y hp) rfl rfl ?_ ?_
    · refine o_not rfl ?_
      refine g_endt ?_
      refine g_cond_f rfl rfl ?_
      repeat (first | refine g_endt ?_ | refine g_end ?_ | refine g_then ?_ | refine g_in_normal ?_ | refine g_then_ret ?_ | refine g_in_ret ?_ | refine g_then_exit ?_ | refine g_in_exit rfl ?_ | refine g_in_exit_ne (by decide) ?_ | refine g_seq ?_ | refine g_region ?_ | refine g_block ?_ | refine g_ret ?_ | refine g_return_n ?_ | refine g_exit ?_ | refine g_skip ?_)
      refine o_move ?_
      refine o_add (c := ((i + 1 : Nat) : Int)) rfl rfl (by omega) (by omega) (by omega) ?_
      refine o_assign ?_
      first | refine g_endt ?_ | refine g_end ?_
      repeat (first | refine g_endt ?_ | refine g_end ?_ | refine g_then ?_ | refine g_in_normal ?_ | refine g_then_ret ?_ | refine g_in_ret ?_ | refine g_then_exit ?_ | refine g_in_exit rfl ?_ | refine g_in_exit_ne (by decide) ?_ | refine g_seq ?_ | refine g_region ?_ | refine g_block ?_ | refine g_ret ?_ | refine g_return_n ?_ | refine g_exit ?_ | refine g_skip ?_)
      exact g_meets ⟨i + 1, hi'⟩ (by show ys.length - (i + 1) < ys.length - i; omega) (Sat.mem ⟨rfl, rfl, rfl, trivial⟩) (t := by rw [ht]; infer_instance)
    · refine o_not rfl ?_
      refine g_endt ?_
      refine g_cond_t rfl rfl ?_
      repeat (first | refine g_endt ?_ | refine g_end ?_ | refine g_then ?_ | refine g_in_normal ?_ | refine g_then_ret ?_ | refine g_in_ret ?_ | refine g_then_exit ?_ | refine g_in_exit rfl ?_ | refine g_in_exit_ne (by decide) ?_ | refine g_seq ?_ | refine g_region ?_ | refine g_block ?_ | refine g_ret ?_ | refine g_return_n ?_ | refine g_exit ?_ | refine g_skip ?_)
      exact ret0 rfl (.inr ⟨_, hp, rfl⟩)
  · first | refine g_seq (g_cond_f rfl (by simp; omega) ?_) | refine g_cond_f rfl (by simp; omega) ?_
    repeat (first | refine g_endt ?_ | refine g_end ?_ | refine g_then ?_ | refine g_in_normal ?_ | refine g_then_ret ?_ | refine g_in_ret ?_ | refine g_then_exit ?_ | refine g_in_exit rfl ?_ | refine g_in_exit_ne (by decide) ?_ | refine g_seq ?_ | refine g_region ?_ | refine g_block ?_ | refine g_ret ?_ | refine g_return_n ?_ | refine g_exit ?_ | refine g_skip ?_)
    have he : ys.take i = ys := List.take_of_length_le (by omega)
    exact ret0 (K := J (ys.take i)) rfl (.inl (by rw [he]))
theorem OfE_spec (A : Option Addr) (len cap : Nat) : Ctr Try.prog 13 [.slice A len cap] []
    (fun v M => ∃ b, v = .func (.func 36) #[] #[.pointer (some ⟨b, 0, none⟩)] ∧ M = [pblk b (.cells #[.slice A len cap] 23 (0, 0))]) := by
  refine spec_of Try.func13 rfl Try.ntmps13 rfl fun w0 F => ?_
  -- ponder/ponderkeep.Of[ponder/api.Elem]
  repeat (first | refine g_endt ?_ | refine g_end ?_ | refine g_then ?_ | refine g_in_normal ?_ | refine g_then_ret ?_ | refine g_in_ret ?_ | refine g_then_exit ?_ | refine g_in_exit rfl ?_ | refine g_in_exit_ne (by decide) ?_ | refine g_seq ?_ | refine g_region ?_ | refine g_block ?_ | refine g_ret ?_ | refine g_return_n ?_ | refine g_exit ?_ | refine g_skip ?_)
  refine o_boxc #[.slice A len cap] rfl rfl fun b => G.freeze <| ?_
  refine o_assign ?_
  first | refine g_endt ?_ | refine g_end ?_
  repeat (first | refine g_endt ?_ | refine g_end ?_ | refine g_then ?_ | refine g_in_normal ?_ | refine g_then_ret ?_ | refine g_in_ret ?_ | refine g_then_exit ?_ | refine g_in_exit rfl ?_ | refine g_in_exit_ne (by decide) ?_ | refine g_seq ?_ | refine g_region ?_ | refine g_block ?_ | refine g_ret ?_ | refine g_return_n ?_ | refine g_exit ?_ | refine g_skip ?_)
  refine o_func ?_
  refine o_assign ?_
  first | refine g_endt ?_ | refine g_end ?_
  repeat (first | refine g_endt ?_ | refine g_end ?_ | refine g_then ?_ | refine g_in_normal ?_ | refine g_then_ret ?_ | refine g_in_ret ?_ | refine g_then_exit ?_ | refine g_in_exit rfl ?_ | refine g_in_exit_ne (by decide) ?_ | refine g_seq ?_ | refine g_region ?_ | refine g_block ?_ | refine g_ret ?_ | refine g_return_n ?_ | refine g_exit ?_ | refine g_skip ?_)
  exact ret1 rfl (resT rfl) ⟨b, rfl, rfl⟩
end Go.Proofs.Ytfhkhghjlhohdaa
/- Things told one by one, as values; a list that grows in a variable. -/
namespace Go.Proofs.Ytfhkhghjlhohdaa
open Go Go.Sl
attribute [local irreducible] Code.wpIn roundPost bodyPostM runL Ret Meets Begin

theorem beqS_self (x : SymD) : x.beq x = true := (SymD.beq_iff x x).2 rfl
def encVS (x : SymD) : List Value := [SymD.val x]
/-- A list that grows, in a variable. -/
def GrowS (p : Nat) (pre : List SymD) : SProp := ex fun r : Option Addr × Nat => sl [cellsB p #[.slice r.1 pre.length r.2] 22, osl 25 encS 3 r.1 r.2 pre]
section
variable {w0 : World} {A : SProp} {L M : List SProp} {Φ : World → Prop}
theorem openGS (p : Nat) (pre : List SymD) [tk : Take1 L (GrowS p pre) M] (h : ∀ S c, G w0 A (cellsB p #[.slice S pre.length c] 22 :: osl 25 encS 3 S c pre :: M) Φ) : G w0 A L Φ :=
  G.perm tk.perm (G.ex fun ⟨S, c⟩ => G.open_sl (h S c))
theorem shutGS (p : Nat) (pre : List SymD) (S : Option Addr) (c : Nat) {n : Nat} (hn : pre.length = n) [tk : Take L [cellsB p #[.slice S n c] 22, osl 25 encS 3 S c pre] M] (h : G w0 A (GrowS p pre :: M) Φ) : G w0 A L Φ := by
  subst hn
  exact G.perm tk.perm (G.ent ((sl_append_to _ M).trans (Ent.star (show Ent _ (GrowS p pre) from fun _ _ x => ⟨(S, c), x⟩) (Ent.refl _))) h)
theorem newGS (p : Nat) [tk : Take1 L (cellsB p #[.slice none 0 0] 22) M] (h : G w0 A (GrowS p [] :: M) Φ) : G w0 A L Φ :=
  G.perm tk.perm (G.nil_slice 25 encS 3 (shutGS p [] none 0 rfl (M := M) (tk := ⟨List.Perm.swap _ _ _⟩) h))
end
end Go.Proofs.Ytfhkhghjlhohdaa
/- Things told one by one, as values; a list that grows in a variable. -/
namespace Go.Proofs.Ytfhkhghjlhohdaa
open Go Go.Sl
attribute [local irreducible] Code.wpIn roundPost bodyPostM runL Ret Meets Begin

def valI (x : Int) : Value := .int .i64 x
def encVI (x : Int) : List Value := [valI x]
/-- A list that grows, in a variable. -/
def GrowI (p : Nat) (pre : List Int) : SProp := ex fun r : Option Addr × Nat => sl [cellsB p #[.slice r.1 pre.length r.2] 46, osl 3 encI 1 r.1 r.2 pre]
section
variable {w0 : World} {A : SProp} {L M : List SProp} {Φ : World → Prop}
theorem openGI (p : Nat) (pre : List Int) [tk : Take1 L (GrowI p pre) M] (h : ∀ S c, G w0 A (cellsB p #[.slice S pre.length c] 46 :: osl 3 encI 1 S c pre :: M) Φ) : G w0 A L Φ :=
  G.perm tk.perm (G.ex fun ⟨S, c⟩ => G.open_sl (h S c))
theorem shutGI (p : Nat) (pre : List Int) (S : Option Addr) (c : Nat) {n : Nat} (hn : pre.length = n) [tk : Take L [cellsB p #[.slice S n c] 46, osl 3 encI 1 S c pre] M] (h : G w0 A (GrowI p pre :: M) Φ) : G w0 A L Φ := by
  subst hn
  exact G.perm tk.perm (G.ent ((sl_append_to _ M).trans (Ent.star (show Ent _ (GrowI p pre) from fun _ _ x => ⟨(S, c), x⟩) (Ent.refl _))) h)
theorem newGI (p : Nat) [tk : Take1 L (cellsB p #[.slice none 0 0] 46) M] (h : G w0 A (GrowI p [] :: M) Φ) : G w0 A L Φ :=
  G.perm tk.perm (G.nil_slice 3 encI 1 (shutGI p [] none 0 rfl (M := M) (tk := ⟨List.Perm.swap _ _ _⟩) h))
end
end Go.Proofs.Ytfhkhghjlhohdaa
/- An ordered set's functions, for one type of members: told in order; made; how many; at a place. -/
namespace Go.Proofs.Ytfhkhghjlhohdaa
open Go Go.Sl
attribute [local irreducible] Code.wpIn roundPost bodyPostM runL Ret Meets Begin

theorem fromSI_spec (p k : Nat) (ys : List PgSI) (hl : ys.length < 1000000000) (hk : k ≤ ys.length) (l : Nat) (J Jx : List PgSI → List SProp) {M : List SProp} [tk : Take1 (J []) (SetASI p ys) M]
    (hy : ∀ pre x, (pre ++ [x]) <+: ys.drop k → Sl.Yields Try.prog l (PgSI.enc' x) (J pre) (J (pre ++ [x])) (Jx (pre ++ [x]))) :
    Ctr Try.prog 66 [.pointer (some ⟨p, 0, none⟩), .int .i64 (k : Int), .func (.yield l) #[] #[]] (J []) (fun _ L' => L' = J (ys.drop k) ∨ ∃ pre, pre <+: ys.drop k ∧ L' = Jx pre) := by
  refine spec_of Try.func66 rfl Try.ntmps66 rfl fun w0 F => ?_
  repeat (first | refine g_endt ?_ | refine g_end ?_ | refine g_then ?_ | refine g_in_normal ?_ | refine g_then_ret ?_ | refine g_in_ret ?_ | refine g_then_exit ?_ | refine g_in_exit rfl ?_ | refine g_in_exit_ne (by decide) ?_ | refine g_seq ?_ | refine g_region ?_ | refine g_block ?_ | refine g_ret ?_ | refine g_return_n ?_ | refine g_exit ?_ | refine g_skip ?_)
  refine openSI p ys fun S c b => ?_
  refine o_move ?_
  refine o_nil rfl ?_
  refine o_field rfl ?_
  refine o_store (v := .bool true) rfl rfl rfl rfl rfl ?_
  refine g_endt ?_
  refine G.norm p #[.slice S ys.length c, .bool true] rfl ?_
  refine G.bring [row 85 PgSI.enc 4 b S c ys] ?_
  refine G.see1 ?_
  repeat (first | refine g_endt ?_ | refine g_end ?_ | refine g_then ?_ | refine g_in_normal ?_ | refine g_then_ret ?_ | refine g_in_ret ?_ | refine g_then_exit ?_ | refine g_in_exit rfl ?_ | refine g_in_exit_ne (by decide) ?_ | refine g_seq ?_ | refine g_region ?_ | refine g_block ?_ | refine g_ret ?_ | refine g_return_n ?_ | refine g_exit ?_ | refine g_skip ?_)
  refine o_move ?_
  refine o_nil rfl ?_
  refine o_field rfl ?_
  refine o_load1 (v := .slice S ys.length c) rfl rfl ?_
  refine o_assign ?_
  refine g_endt ?_
  refine G.dup (psl PgSI.enc 4 S ys) ?_
  refine shutTSI p ys S c rfl ?_
  repeat (first | refine g_endt ?_ | refine g_end ?_ | refine g_then ?_ | refine g_in_normal ?_ | refine g_then_ret ?_ | refine g_in_ret ?_ | refine g_then_exit ?_ | refine g_in_exit rfl ?_ | refine g_in_exit_ne (by decide) ?_ | refine g_seq ?_ | refine g_region ?_ | refine g_block ?_ | refine g_ret ?_ | refine g_return_n ?_ | refine g_exit ?_ | refine g_skip ?_)
  refine o_move ?_
  refine o_assign ?_
  first | refine g_endt ?_ | refine g_end ?_
  repeat (first | refine g_endt ?_ | refine g_end ?_ | refine g_then ?_ | refine g_in_normal ?_ | refine g_then_ret ?_ | refine g_in_ret ?_ | refine g_then_exit ?_ | refine g_in_exit rfl ?_ | refine g_in_exit_ne (by decide) ?_ | refine g_seq ?_ | refine g_region ?_ | refine g_block ?_ | refine g_ret ?_ | refine g_return_n ?_ | refine g_exit ?_ | refine g_skip ?_)
  refine g_loop (σ := {i : Nat // k ≤ i ∧ i ≤ ys.length}) (S := fun i => [(2, .func (.yield l) #[] #[]), (6, .slice S ys.length c), (7, .int .i64 (i.1 : Int))])
    (H := fun i => psl PgSI.enc 4 S ys :: J ((ys.drop k).take (i.1 - k))) (μ := fun i => ys.length - i.1) (s0 := ⟨k, Nat.le_refl _, hk⟩) (Sat.mem ⟨rfl, rfl, rfl, trivial⟩)
    (t := by simp only [Nat.sub_self, List.take_zero]; exact Take.setback) ?_
  rintro ⟨i, h1, h2⟩ ρ'
  dsimp only at h1 h2 ⊢
  repeat (first | refine g_endt ?_ | refine g_end ?_ | refine g_then ?_ | refine g_in_normal ?_ | refine g_then_ret ?_ | refine g_in_ret ?_ | refine g_then_exit ?_ | refine g_in_exit rfl ?_ | refine g_in_exit_ne (by decide) ?_ | refine g_seq ?_ | refine g_region ?_ | refine g_block ?_ | refine g_ret ?_ | refine g_return_n ?_ | refine g_exit ?_ | refine g_skip ?_)
  refine o_move ?_
  refine o_move ?_
  refine o_len rfl rfl ?_
  refine o_lss rfl rfl ?_
  first | refine g_endt ?_ | refine g_end ?_
  by_cases h : i < ys.length
  · first | refine g_seq (g_cond_t rfl (by simpa using h) ?_) | refine g_cond_t rfl (by simpa using h) ?_
    repeat (first | refine g_endt ?_ | refine g_end ?_ | refine g_then ?_ | refine g_in_normal ?_ | refine g_then_ret ?_ | refine g_in_ret ?_ | refine g_then_exit ?_ | refine g_in_exit rfl ?_ | refine g_in_exit_ne (by decide) ?_ | refine g_seq ?_ | refine g_region ?_ | refine g_block ?_ | refine g_ret ?_ | refine g_return_n ?_ | refine g_exit ?_ | refine g_skip ?_)
    obtain ⟨y, hz⟩ : ∃ y, ys[i]? = some y := ⟨_, List.getElem?_eq_getElem h⟩
    have ht : (ys.drop k).take (i + 1 - k) = (ys.drop k).take (i - k) ++ [y] := by
      rw [show i + 1 - k = (i - k) + 1 by omega]
      exact take_snocPSI _ _ _ (by rw [List.getElem?_drop, show k + (i - k) = i by omega, hz])
    have hp : ((ys.drop k).take (i - k) ++ [y]) <+: ys.drop k := ⟨(ys.drop k).drop (i + 1 - k), by rw [← ht, List.take_append_drop]⟩
    refine o_move ?_
    refine o_move ?_
    refine o_move ?_
    refine o_indexR (i := i) rfl rfl rfl h rfl rfl ?_
    refine o_loadE (enc := PgSI.enc) rfl rfl hz ?_
    refine o_yield (hy _ y hp) rfl rfl ?_ ?_
    · refine o_not rfl ?_
      refine g_endt ?_
      refine g_cond_f rfl rfl ?_
      repeat (first | refine g_endt ?_ | refine g_end ?_ | refine g_then ?_ | refine g_in_normal ?_ | refine g_then_ret ?_ | refine g_in_ret ?_ | refine g_then_exit ?_ | refine g_in_exit rfl ?_ | refine g_in_exit_ne (by decide) ?_ | refine g_seq ?_ | refine g_region ?_ | refine g_block ?_ | refine g_ret ?_ | refine g_return_n ?_ | refine g_exit ?_ | refine g_skip ?_)
      refine o_move ?_
      refine o_add (c := ((i + 1 : Nat) : Int)) rfl rfl (by omega) (by omega) (by omega) ?_
      refine o_assign ?_
      refine g_endt ?_
      repeat (first | refine g_endt ?_ | refine g_end ?_ | refine g_then ?_ | refine g_in_normal ?_ | refine g_then_ret ?_ | refine g_in_ret ?_ | refine g_then_exit ?_ | refine g_in_exit rfl ?_ | refine g_in_exit_ne (by decide) ?_ | refine g_seq ?_ | refine g_region ?_ | refine g_block ?_ | refine g_ret ?_ | refine g_return_n ?_ | refine g_exit ?_ | refine g_skip ?_)
      exact g_meets ⟨i + 1, by omega, h⟩ (by show ys.length - (i + 1) < ys.length - i; omega) (Sat.mem ⟨rfl, rfl, rfl, trivial⟩) (t := by rw [ht]; infer_instance)
    · refine o_not rfl ?_
      refine g_endt ?_
      refine g_cond_t rfl rfl ?_
      repeat (first | refine g_endt ?_ | refine g_end ?_ | refine g_then ?_ | refine g_in_normal ?_ | refine g_then_ret ?_ | refine g_in_ret ?_ | refine g_then_exit ?_ | refine g_in_exit rfl ?_ | refine g_in_exit_ne (by decide) ?_ | refine g_seq ?_ | refine g_region ?_ | refine g_block ?_ | refine g_ret ?_ | refine g_return_n ?_ | refine g_exit ?_ | refine g_skip ?_)
      exact ret0 rfl (.inr ⟨_, hp, rfl⟩)
  · first | refine g_seq (g_cond_f rfl (by simpa using h) ?_) | refine g_cond_f rfl (by simpa using h) ?_
    repeat (first | refine g_endt ?_ | refine g_end ?_ | refine g_then ?_ | refine g_in_normal ?_ | refine g_then_ret ?_ | refine g_in_ret ?_ | refine g_then_exit ?_ | refine g_in_exit rfl ?_ | refine g_in_exit_ne (by decide) ?_ | refine g_seq ?_ | refine g_region ?_ | refine g_block ?_ | refine g_ret ?_ | refine g_return_n ?_ | refine g_exit ?_ | refine g_skip ?_)
    have he : (ys.drop k).take (i - k) = ys.drop k := List.take_of_length_le (by simp; omega)
    exact ret0 (K := J ((ys.drop k).take (i - k))) rfl (.inl (by rw [he]))
theorem All1SI_iter (p b : Nat) (ys : List PgSI) (hl : ys.length < 1000000000) (J0 : List SProp) {M : List SProp} [tk : Take1 J0 (SetASI p ys) M] [HasP J0 (pblk b (.cells #[.pointer (some ⟨p, 0, none⟩)] 87 (0, 0)))] :
    Iter Try.prog 65 [.pointer (some ⟨b, 0, none⟩)] PgSI.enc' ys J0 := by
  intro l J Jx hJ hy
  subst hJ
  refine spec_of Try.func65 rfl Try.ntmps65 rfl fun w0 F => ?_
  refine G.dup (pblk b (.cells #[.pointer (some ⟨p, 0, none⟩)] 87 (0, 0))) ?_
  repeat (first | refine g_endt ?_ | refine g_end ?_ | refine g_then ?_ | refine g_in_normal ?_ | refine g_then_ret ?_ | refine g_in_ret ?_ | refine g_then_exit ?_ | refine g_in_exit rfl ?_ | refine g_in_exit_ne (by decide) ?_ | refine g_seq ?_ | refine g_region ?_ | refine g_block ?_ | refine g_ret ?_ | refine g_return_n ?_ | refine g_exit ?_ | refine g_skip ?_)
  refine o_load1 (v := .pointer (some ⟨p, 0, none⟩)) rfl rfl ?_
  refine o_pneq rfl ?_
  refine g_endt ?_
  first | refine g_seq (g_cond_t rfl (rfl) ?_) | refine g_cond_t rfl (rfl) ?_
  repeat (first | refine g_endt ?_ | refine g_end ?_ | refine g_then ?_ | refine g_in_normal ?_ | refine g_then_ret ?_ | refine g_in_ret ?_ | refine g_then_exit ?_ | refine g_in_exit rfl ?_ | refine g_in_exit_ne (by decide) ?_ | refine g_seq ?_ | refine g_region ?_ | refine g_block ?_ | refine g_ret ?_ | refine g_return_n ?_ | refine g_exit ?_ | refine g_skip ?_)
  refine o_load1 (v := .pointer (some ⟨p, 0, none⟩)) rfl rfl ?_
  refine o_move ?_
  refine o_call (fromSI_spec p 0 ys hl (Nat.zero_le _) l J Jx (by simpa using hy)) rfl rfl ?_
  intro v L' hR
  repeat (first | refine g_endt ?_ | refine g_end ?_ | refine g_then ?_ | refine g_in_normal ?_ | refine g_then_ret ?_ | refine g_in_ret ?_ | refine g_then_exit ?_ | refine g_in_exit rfl ?_ | refine g_in_exit_ne (by decide) ?_ | refine g_seq ?_ | refine g_region ?_ | refine g_block ?_ | refine g_ret ?_ | refine g_return_n ?_ | refine g_exit ?_ | refine g_skip ?_)
  exact ret0 (K := L') rfl (by simpa using hR)
theorem AllSI_spec (p : Nat) : Ctr Try.prog 51 [.pointer (some ⟨p, 0, none⟩)] []
    (fun v M => ∃ b, v = .func (.func 65) #[] #[.pointer (some ⟨b, 0, none⟩)] ∧ M = [pblk b (.cells #[.pointer (some ⟨p, 0, none⟩)] 87 (0, 0))]) := by
  refine spec_of Try.func51 rfl Try.ntmps51 rfl fun w0 F => ?_
  repeat (first | refine g_endt ?_ | refine g_end ?_ | refine g_then ?_ | refine g_in_normal ?_ | refine g_then_ret ?_ | refine g_in_ret ?_ | refine g_then_exit ?_ | refine g_in_exit rfl ?_ | refine g_in_exit_ne (by decide) ?_ | refine g_seq ?_ | refine g_region ?_ | refine g_block ?_ | refine g_ret ?_ | refine g_return_n ?_ | refine g_exit ?_ | refine g_skip ?_)
  refine o_boxc #[.pointer (some ⟨p, 0, none⟩)] rfl rfl fun b => ?_
  refine G.freeze ?_
  refine o_assign ?_
  first | refine g_endt ?_ | refine g_end ?_
  repeat (first | refine g_endt ?_ | refine g_end ?_ | refine g_then ?_ | refine g_in_normal ?_ | refine g_then_ret ?_ | refine g_in_ret ?_ | refine g_then_exit ?_ | refine g_in_exit rfl ?_ | refine g_in_exit_ne (by decide) ?_ | refine g_seq ?_ | refine g_region ?_ | refine g_block ?_ | refine g_ret ?_ | refine g_return_n ?_ | refine g_exit ?_ | refine g_skip ?_)
  refine o_func ?_
  refine o_assign ?_
  first | refine g_endt ?_ | refine g_end ?_
  repeat (first | refine g_endt ?_ | refine g_end ?_ | refine g_then ?_ | refine g_in_normal ?_ | refine g_then_ret ?_ | refine g_in_ret ?_ | refine g_then_exit ?_ | refine g_in_exit rfl ?_ | refine g_in_exit_ne (by decide) ?_ | refine g_seq ?_ | refine g_region ?_ | refine g_block ?_ | refine g_ret ?_ | refine g_return_n ?_ | refine g_exit ?_ | refine g_skip ?_)
  exact ret1 rfl (resT rfl) ⟨b, rfl, rfl⟩
end Go.Proofs.Ytfhkhghjlhohdaa
