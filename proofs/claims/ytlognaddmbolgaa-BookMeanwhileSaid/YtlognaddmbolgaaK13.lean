/- The law on what changes while a loop goes on, walked. -/
import Derived.Test.YtlognaddmbolgaaK12
import Derived.Test.YtlognaddmbolgaaSlA
namespace Go.Proofs.Ytlognaddmbolgaa
open Go Go.Sl
attribute [local irreducible] Code.wpIn roundPost bodyPostM runL Ret Meets Begin

/-- The map, as it was when the loop began, or as the loop has left it. -/
abbrev MW (m : Nat) (ys : List PgSI) : List PgSI → SProp
  | [] => MapASI m ys
  | pre => ex fun ks : {ks : List PgSI // Srt PgSI.cmp ks ∧ ks.length ≤ 100 + 100 * pre.length} => MapASI m ks.1
section
variable {w0 : World} {A : SProp} {L M : List SProp} {Φ : World → Prop}
theorem openMW (m : Nat) (ys pre : List PgSI) (hs : Srt PgSI.cmp ys) (hl : ys.length ≤ 60) [tk : Take1 L (MW m ys pre) M] (h : ∀ ks, Srt PgSI.cmp ks → ks.length ≤ 100 + 100 * pre.length → G w0 A (MapASI m ks :: M) Φ) : G w0 A L Φ :=
  G.perm tk.perm (by
    cases pre with
    | nil => exact h ys hs (by omega)
    | cons x pre => exact G.ex fun ⟨ks, h1, h2⟩ => h ks h1 h2)
theorem shutMW (m : Nat) (ys pre ks : List PgSI) (x : PgSI) (h1 : Srt PgSI.cmp ks) (h2 : ks.length ≤ 100 + 100 * (pre.length + 1)) [tk : Take1 L (MapASI m ks) M] (h : G w0 A (MW m ys (pre ++ [x]) :: M) Φ) : G w0 A L Φ := by
  refine G.perm tk.perm (G.ent (L := MapASI m ks :: M) (L' := MW m ys (pre ++ [x]) :: M) ((show Ent (MapASI m ks) (MW m ys (pre ++ [x])) from ?_).star (Ent.refl (sl M))) h)
  have hp : (pre ++ [x]).length = pre.length + 1 := by simp
  cases hc : pre ++ [x] with
  | nil => simp at hc
  | cons y t =>
    rw [hc] at hp
    exact fun _ _ x => ⟨⟨ks, h1, by rw [hp]; exact h2⟩, x⟩
end

theorem BookMeanwhile_spec (A : Option Addr) (la ca : Nat) (xs : List SymD) (hl : xs.length = la) (hm : la ≤ 9223372036854775807) :
    Ctr Try.prog 4 [.slice A la ca] [psl encS 3 A xs] (fun v M => v = .bool true ∧ M = []) := by
  refine spec_of Try.func4 rfl Try.ntmps4 rfl fun w0 F => ?_
  -- ponder/ponderlaw02.BookMeanwhile
  repeat (first | refine g_endt ?_ | refine g_end ?_ | refine g_then ?_ | refine g_in_normal ?_ | refine g_then_ret ?_ | refine g_in_ret ?_ | refine g_then_exit ?_ | refine g_in_exit rfl ?_ | refine g_in_exit_ne (by decide) ?_ | refine g_seq ?_ | refine g_region ?_ | refine g_block ?_ | refine g_ret ?_ | refine g_return_n ?_ | refine g_exit ?_ | refine g_skip ?_)
  refine o_boxc #[.slice A la ca] rfl rfl fun bl => ?_
  refine o_alloc fun r => ?_
  first | refine g_endt ?_ | refine g_end ?_
  repeat (first | refine g_endt ?_ | refine g_end ?_ | refine g_then ?_ | refine g_in_normal ?_ | refine g_then_ret ?_ | refine g_in_ret ?_ | refine g_then_exit ?_ | refine g_in_exit rfl ?_ | refine g_in_exit_ne (by decide) ?_ | refine g_seq ?_ | refine g_region ?_ | refine g_block ?_ | refine g_ret ?_ | refine g_return_n ?_ | refine g_exit ?_ | refine g_skip ?_)
  first | refine o_load1 rfl rfl ?_ | refine o_loadE0 rfl (by assumption) rfl ?_ | refine o_loadE1 rfl (by assumption) rfl ?_
  refine o_len rfl rfl ?_
  refine o_gtr rfl rfl ?_
  first | refine g_endt ?_ | refine g_end ?_
  by_cases h1 : 60 < la
  · first | refine g_seq (g_cond_t rfl (by first | rfl | (simp; done) | (simp; omega) | (simp; assumption)) ?_) | refine g_cond_t rfl (by first | rfl | (simp; done) | (simp; omega) | (simp; assumption)) ?_
    repeat (first | refine g_endt ?_ | refine g_end ?_ | refine g_then ?_ | refine g_in_normal ?_ | refine g_then_ret ?_ | refine g_in_ret ?_ | refine g_then_exit ?_ | refine g_in_exit rfl ?_ | refine g_in_exit_ne (by decide) ?_ | refine g_seq ?_ | refine g_region ?_ | refine g_block ?_ | refine g_ret ?_ | refine g_return_n ?_ | refine g_exit ?_ | refine g_skip ?_)
    refine o_call (wakes02_spec) rfl rfl ?_
    rintro _ _ ⟨rfl, rfl⟩
    refine o_store rfl rfl rfl rfl rfl ?_
    first | refine g_endt ?_ | refine g_end ?_
    refine G.norm r #[.bool true] rfl ?_
    repeat (first | refine g_endt ?_ | refine g_end ?_ | refine g_then ?_ | refine g_in_normal ?_ | refine g_then_ret ?_ | refine g_in_ret ?_ | refine g_then_exit ?_ | refine g_in_exit rfl ?_ | refine g_in_exit_ne (by decide) ?_ | refine g_seq ?_ | refine g_region ?_ | refine g_block ?_ | refine g_ret ?_ | refine g_return_n ?_ | refine g_exit ?_ | refine g_skip ?_)
    exact ret1 (K := []) rfl (resC1 (v := .bool true) rfl rfl) ⟨rfl, rfl⟩
  first | refine g_seq (g_cond_f rfl (by simp; omega) ?_) | refine g_cond_f rfl (by simp; omega) ?_
  repeat (first | refine g_endt ?_ | refine g_end ?_ | refine g_then ?_ | refine g_in_normal ?_ | refine g_then_ret ?_ | refine g_in_ret ?_ | refine g_then_exit ?_ | refine g_in_exit rfl ?_ | refine g_in_exit_ne (by decide) ?_ | refine g_seq ?_ | refine g_region ?_ | refine g_block ?_ | refine g_ret ?_ | refine g_return_n ?_ | refine g_exit ?_ | refine g_skip ?_)
  first | refine o_load1 rfl rfl ?_ | refine o_loadE0 rfl (by assumption) rfl ?_ | refine o_loadE1 rfl (by assumption) rfl ?_
  refine o_callp (filled_spec A la ca xs hl (by omega)) rfl rfl ?_
  rintro _ _ ⟨m, p, ys, rfl, rfl, hs, hyl⟩
  refine o_move ?_
  refine o_extract rfl rfl ?_
  refine o_extract rfl rfl ?_
  refine o_alloc fun bm => ?_
  refine o_store rfl rfl rfl rfl rfl ?_
  refine o_assign ?_
  first | refine g_endt ?_ | refine g_end ?_
  refine G.norm bm #[.pointer (some ⟨m, 0, none⟩)] rfl ?_
  repeat (first | refine g_endt ?_ | refine g_end ?_ | refine g_then ?_ | refine g_in_normal ?_ | refine g_then_ret ?_ | refine g_in_ret ?_ | refine g_then_exit ?_ | refine g_in_exit rfl ?_ | refine g_in_exit_ne (by decide) ?_ | refine g_seq ?_ | refine g_region ?_ | refine g_block ?_ | refine g_ret ?_ | refine g_return_n ?_ | refine g_exit ?_ | refine g_skip ?_)
  first | refine o_load1 rfl rfl ?_ | refine o_loadE0 rfl (by assumption) rfl ?_ | refine o_loadE1 rfl (by assumption) rfl ?_
  refine o_peql rfl ?_
  first | refine g_endt ?_ | refine g_end ?_
  first | refine g_seq (g_cond_f rfl (rfl) ?_) | refine g_cond_f rfl (rfl) ?_
  repeat (first | refine g_endt ?_ | refine g_end ?_ | refine g_then ?_ | refine g_in_normal ?_ | refine g_then_ret ?_ | refine g_in_ret ?_ | refine g_then_exit ?_ | refine g_in_exit rfl ?_ | refine g_in_exit_ne (by decide) ?_ | refine g_seq ?_ | refine g_region ?_ | refine g_block ?_ | refine g_ret ?_ | refine g_return_n ?_ | refine g_exit ?_ | refine g_skip ?_)
  first | refine o_load1 rfl rfl ?_ | refine o_loadE0 rfl (by assumption) rfl ?_ | refine o_loadE1 rfl (by assumption) rfl ?_
  refine o_call (AllMSI_spec m) rfl rfl ?_
  rintro _ _ ⟨b2, rfl, rfl⟩
  refine o_assign ?_
  first | refine g_endt ?_ | refine g_end ?_
  repeat (first | refine g_endt ?_ | refine g_end ?_ | refine g_then ?_ | refine g_in_normal ?_ | refine g_then_ret ?_ | refine g_in_ret ?_ | refine g_then_exit ?_ | refine g_in_exit rfl ?_ | refine g_in_exit_ne (by decide) ?_ | refine g_seq ?_ | refine g_region ?_ | refine g_block ?_ | refine g_ret ?_ | refine g_return_n ?_ | refine g_exit ?_ | refine g_skip ?_)
  refine o_move ?_
  refine o_fnil rfl (fun w => by kernel_rfl) (fun w => by kernel_rfl) ?_
  first | refine g_endt ?_ | refine g_end ?_
  first | refine g_seq (g_cond_f rfl (rfl) ?_) | refine g_cond_f rfl (rfl) ?_
  repeat (first | refine g_endt ?_ | refine g_end ?_ | refine g_then ?_ | refine g_in_normal ?_ | refine g_then_ret ?_ | refine g_in_ret ?_ | refine g_then_exit ?_ | refine g_in_exit rfl ?_ | refine g_in_exit_ne (by decide) ?_ | refine g_seq ?_ | refine g_region ?_ | refine g_block ?_ | refine g_ret ?_ | refine g_return_n ?_ | refine g_exit ?_ | refine g_skip ?_)
  refine o_alloc fun p1 => ?_
  first | refine g_endt ?_ | refine g_end ?_
  repeat (first | refine g_endt ?_ | refine g_end ?_ | refine g_then ?_ | refine g_in_normal ?_ | refine g_then_ret ?_ | refine g_in_ret ?_ | refine g_then_exit ?_ | refine g_in_exit rfl ?_ | refine g_in_exit_ne (by decide) ?_ | refine g_seq ?_ | refine g_region ?_ | refine g_block ?_ | refine g_ret ?_ | refine g_return_n ?_ | refine g_exit ?_ | refine g_skip ?_)
  refine o_alloc fun q1 => ?_
  first | refine g_endt ?_ | refine g_end ?_
  repeat (first | refine g_endt ?_ | refine g_end ?_ | refine g_then ?_ | refine g_in_normal ?_ | refine g_then_ret ?_ | refine g_in_ret ?_ | refine g_then_exit ?_ | refine g_in_exit rfl ?_ | refine g_in_exit_ne (by decide) ?_ | refine g_seq ?_ | refine g_region ?_ | refine g_block ?_ | refine g_ret ?_ | refine g_return_n ?_ | refine g_exit ?_ | refine g_skip ?_)
  refine o_move ?_
  first | refine g_endt ?_ | refine g_end ?_
  refine G.nil_slice 3 encI 1 ?_
  refine G.nil_slice 27 encS 3 ?_
  refine G.norm r #[.bool false] rfl ?_
  refine G.norm p1 #[.slice none 0 0] rfl ?_
  refine G.norm q1 #[.slice none 0 0] rfl ?_
  refine shutP p1 q1 [] none none 0 0 (n := 0) rfl (tk := (inferInstance : Take _ [cellsB p1 #[.slice none 0 0] 35, osl 27 encS 3 none 0 [], cellsB q1 #[.slice none 0 0] 28, osl 3 encI 1 none 0 []] _)) ?_
  repeat (first | refine g_endt ?_ | refine g_end ?_ | refine g_then ?_ | refine g_in_normal ?_ | refine g_then_ret ?_ | refine g_in_ret ?_ | refine g_then_exit ?_ | refine g_in_exit rfl ?_ | refine g_in_exit_ne (by decide) ?_ | refine g_seq ?_ | refine g_region ?_ | refine g_block ?_ | refine g_ret ?_ | refine g_return_n ?_ | refine g_exit ?_ | refine g_skip ?_)
  refine g_range (ps := [27, 28]) (lb := [.pointer (some ⟨b2, 0, none⟩)]) (enc := PgSI.enc2) (xs := ys) rfl
    (fun pre => [MW m ys pre, PairsA p1 q1 pre, psl encS 3 A xs, cellsB bl #[.slice A la ca] 35, cellsB bm #[.pointer (some ⟨m, 0, none⟩)] 36, cellsB r #[.bool false] 4, PlA p ys, pblk b2 (.cells #[.pointer (some ⟨m, 0, none⟩)] 36 (0, 0))]) (fun _ _ => [pu False])
    (fun K => AllM1SI_iter m b2 ys (by omega) (K :: [MapASI m ys, PairsA p1 q1 [], psl encS 3 A xs, cellsB bl #[.slice A la ca] 35, cellsB bm #[.pointer (some ⟨m, 0, none⟩)] 36, cellsB r #[.bool false] 4, PlA p ys, pblk b2 (.cells #[.pointer (some ⟨m, 0, none⟩)] 36 (0, 0))])) (fun _ => rfl) ?_ ?_ ?_
  · intro w0 F l rr pre x hp
    have hlen : pre.length < ys.length := by
      obtain ⟨t, ht⟩ := hp
      have := congrArg List.length ht
      simp at this
      omega
    refine openMW m ys pre hs (by omega) fun ks hks hkl => ?_
    repeat (first | refine g_endt ?_ | refine g_end ?_ | refine g_then ?_ | refine g_in_normal ?_ | refine g_then_ret ?_ | refine g_in_ret ?_ | refine g_then_exit ?_ | refine g_in_exit rfl ?_ | refine g_in_exit_ne (by decide) ?_ | refine g_seq ?_ | refine g_region ?_ | refine g_block ?_ | refine g_ret ?_ | refine g_return_n ?_ | refine g_exit ?_ | refine g_skip ?_)
    refine o_alloc fun c => ?_
    refine o_store rfl rfl rfl rfl rfl ?_
    first | refine g_endt ?_ | refine g_end ?_
    refine G.norm c x.k.val.cells rfl ?_
    repeat (first | refine g_endt ?_ | refine g_end ?_ | refine g_then ?_ | refine g_in_normal ?_ | refine g_then_ret ?_ | refine g_in_ret ?_ | refine g_then_exit ?_ | refine g_in_exit rfl ?_ | refine g_in_exit_ne (by decide) ?_ | refine g_seq ?_ | refine g_region ?_ | refine g_block ?_ | refine g_ret ?_ | refine g_return_n ?_ | refine g_exit ?_ | refine g_skip ?_)
    refine o_assign ?_
    first | refine g_endt ?_ | refine g_end ?_
    repeat (first | refine g_endt ?_ | refine g_end ?_ | refine g_then ?_ | refine g_in_normal ?_ | refine g_then_ret ?_ | refine g_in_ret ?_ | refine g_then_exit ?_ | refine g_in_exit rfl ?_ | refine g_in_exit_ne (by decide) ?_ | refine g_seq ?_ | refine g_region ?_ | refine g_block ?_ | refine g_ret ?_ | refine g_return_n ?_ | refine g_exit ?_ | refine g_skip ?_)
    refine g_begin ?_
    repeat (first | refine g_endt ?_ | refine g_end ?_ | refine g_then ?_ | refine g_in_normal ?_ | refine g_then_ret ?_ | refine g_in_ret ?_ | refine g_then_exit ?_ | refine g_in_exit rfl ?_ | refine g_in_exit_ne (by decide) ?_ | refine g_seq ?_ | refine g_region ?_ | refine g_block ?_ | refine g_ret ?_ | refine g_return_n ?_ | refine g_exit ?_ | refine g_skip ?_)
    refine o_assign ?_
    first | refine g_endt ?_ | refine g_end ?_
    repeat (first | refine g_endt ?_ | refine g_end ?_ | refine g_then ?_ | refine g_in_normal ?_ | refine g_then_ret ?_ | refine g_in_ret ?_ | refine g_then_exit ?_ | refine g_in_exit rfl ?_ | refine g_in_exit_ne (by decide) ?_ | refine g_seq ?_ | refine g_region ?_ | refine g_block ?_ | refine g_ret ?_ | refine g_return_n ?_ | refine g_exit ?_ | refine g_skip ?_)
    refine g_loop (σ := {t : Nat × List PgSI // t.1 ≤ la ∧ Srt PgSI.cmp t.2 ∧ t.2.length ≤ 100 + 100 * pre.length + t.1}) (S := fun t => [(1, .pointer (some ⟨bl, 0, none⟩)), (2, .pointer (some ⟨r, 0, none⟩)), (3, .pointer (some ⟨bm, 0, none⟩)), (4, .pointer (some ⟨p, 0, none⟩)), (6, .pointer (some ⟨p1, 0, none⟩)), (7, .pointer (some ⟨q1, 0, none⟩)), (8, .pointer (some ⟨c, 0, none⟩)), (9, .int .i64 x.v), (10, .int .i64 (t.1.1 : Int))])
      (H := fun t => [MapASI m t.1.2, PairsA p1 q1 pre, psl encS 3 A xs, cellsB bl #[.slice A la ca] 35, cellsB bm #[.pointer (some ⟨m, 0, none⟩)] 36, cellsB r #[.bool false] 4, PlA p ys, cellsB c x.k.val.cells 27, pblk b2 (.cells #[.pointer (some ⟨m, 0, none⟩)] 36 (0, 0))]) (μ := fun t => la - t.1.1) (s0 := ⟨(0, ks), Nat.zero_le _, hks, hkl⟩) (Sat.mem ⟨rfl, rfl, rfl, rfl, rfl, rfl, rfl, rfl, rfl, trivial⟩) ?_
    rintro ⟨⟨i, ks1⟩, hi, hk1, hl1⟩ ρ'
    dsimp only at hi hk1 hl1 ⊢
    repeat (first | refine g_endt ?_ | refine g_end ?_ | refine g_then ?_ | refine g_in_normal ?_ | refine g_then_ret ?_ | refine g_in_ret ?_ | refine g_then_exit ?_ | refine g_in_exit rfl ?_ | refine g_in_exit_ne (by decide) ?_ | refine g_seq ?_ | refine g_region ?_ | refine g_block ?_ | refine g_ret ?_ | refine g_return_n ?_ | refine g_exit ?_ | refine g_skip ?_)
    refine o_move ?_
    first | refine o_load1 rfl rfl ?_ | refine o_loadE0 rfl (by assumption) rfl ?_ | refine o_loadE1 rfl (by assumption) rfl ?_
    refine o_len rfl rfl ?_
    refine o_lss rfl rfl ?_
    first | refine g_endt ?_ | refine g_end ?_
    by_cases h : i < la
    · first | refine g_seq (g_cond_t rfl (by first | rfl | (simp; done) | (simp; omega) | (simp; assumption)) ?_) | refine g_cond_t rfl (by first | rfl | (simp; done) | (simp; omega) | (simp; assumption)) ?_
      have hi' : i < xs.length := by omega
      obtain ⟨z, hz⟩ : ∃ z, xs[i]? = some z := ⟨_, List.getElem?_eq_getElem hi'⟩
      repeat (first | refine g_endt ?_ | refine g_end ?_ | refine g_then ?_ | refine g_in_normal ?_ | refine g_then_ret ?_ | refine g_in_ret ?_ | refine g_then_exit ?_ | refine g_in_exit rfl ?_ | refine g_in_exit_ne (by decide) ?_ | refine g_seq ?_ | refine g_region ?_ | refine g_block ?_ | refine g_ret ?_ | refine g_return_n ?_ | refine g_exit ?_ | refine g_skip ?_)
      refine g_draw [5] [0,1,2,3,4,5] [cellsB bm #[.pointer (some ⟨m, 0, none⟩)] 36, cellsB bl #[.slice A la ca] 35, psl encS 3 A xs] mixed rfl ?_
      first | refine ob_q rfl rfl ⟨_, fun X Q h => o_load1 rfl rfl (g_end (h _ _ ⟨rfl, rfl⟩)), ?_⟩ | refine ob_q rfl rfl ⟨_, fun X Q h => o_loadE0 rfl (by assumption) rfl (g_end (h _ _ ⟨rfl, rfl⟩)), ?_⟩ | refine ob_q rfl rfl ⟨_, fun X Q h => o_loadE1 rfl (by assumption) rfl (g_end (h _ _ ⟨rfl, rfl⟩)), ?_⟩
      first | refine ob_q rfl rfl ⟨_, fun X Q h => o_load1 rfl rfl (g_end (h _ _ ⟨rfl, rfl⟩)), ?_⟩ | refine ob_q rfl rfl ⟨_, fun X Q h => o_loadE0 rfl (by assumption) rfl (g_end (h _ _ ⟨rfl, rfl⟩)), ?_⟩ | refine ob_q rfl rfl ⟨_, fun X Q h => o_loadE1 rfl (by assumption) rfl (g_end (h _ _ ⟨rfl, rfl⟩)), ?_⟩
      refine ob_q rfl rfl ⟨_, fun X Q h => o_move (g_end (h _ _ ⟨rfl, rfl⟩)), ?_⟩
      refine ob_q rfl rfl ⟨_, fun X Q h => o_indexR rfl rfl rfl (by first | assumption | omega) (by first | rfl | assumption | omega) rfl (g_end (h _ _ ⟨rfl, rfl⟩)), ?_⟩
      first | refine ob_q rfl rfl ⟨_, fun X Q h => o_loadN rfl rfl rfl (g_end (h _ _ ⟨rfl, rfl⟩)), ?_⟩ | refine ob_q rfl rfl ⟨_, fun X Q h => o_loadE rfl rfl (by assumption) (g_end (h _ _ ⟨rfl, rfl⟩)), ?_⟩ | refine ob_q rfl rfl ⟨_, fun X Q h => o_loadEN rfl (by assumption) rfl rfl (g_end (h _ _ ⟨rfl, rfl⟩)), ?_⟩
      refine ob_l rfl rfl fun Qz hz => o_call (PutMSI_spec m ks1 z (-1) hk1 (by omega)) rfl rfl ?_
      rintro _ _ ⟨k, there, rfl, rfl, hk⟩
      refine g_end (hz _ _ ⟨_, ob_fin, ?_⟩)
      clear hz Qz
      refine ob_nil ?_
      obtain ⟨hs2, hl2⟩ := put_srt hk1 hk
      generalize putLSI ks1 z (-1) k there = ks2 at hs2 hl2 ⊢
      repeat (first | refine g_endt ?_ | refine g_end ?_ | refine g_then ?_ | refine g_in_normal ?_ | refine g_then_ret ?_ | refine g_in_ret ?_ | refine g_then_exit ?_ | refine g_in_exit rfl ?_ | refine g_in_exit_ne (by decide) ?_ | refine g_seq ?_ | refine g_region ?_ | refine g_block ?_ | refine g_ret ?_ | refine g_return_n ?_ | refine g_exit ?_ | refine g_skip ?_)
      refine o_move ?_
      refine o_add (c := ((i + 1 : Nat) : Int)) rfl rfl (by omega) (by omega) (by omega) ?_
      refine o_assign ?_
      first | refine g_endt ?_ | refine g_end ?_
      repeat (first | refine g_endt ?_ | refine g_end ?_ | refine g_then ?_ | refine g_in_normal ?_ | refine g_then_ret ?_ | refine g_in_ret ?_ | refine g_then_exit ?_ | refine g_in_exit rfl ?_ | refine g_in_exit_ne (by decide) ?_ | refine g_seq ?_ | refine g_region ?_ | refine g_block ?_ | refine g_ret ?_ | refine g_return_n ?_ | refine g_exit ?_ | refine g_skip ?_)
      exact g_meets (⟨(i + 1, ks2), h, hs2, by dsimp only; omega⟩) (by first | exact trivial | (dsimp only; omega)) (Sat.mem (by repeat (first | exact trivial | refine And.intro rfl ?_)))
    · first | refine g_seq (g_cond_f rfl (by first | rfl | (simp; done) | (simp; omega) | (simp; assumption)) ?_) | refine g_cond_f rfl (by first | rfl | (simp; done) | (simp; omega) | (simp; assumption)) ?_
      repeat (first | refine g_endt ?_ | refine g_end ?_ | refine g_then ?_ | refine g_in_normal ?_ | refine g_then_ret ?_ | refine g_in_ret ?_ | refine g_then_exit ?_ | refine g_in_exit rfl ?_ | refine g_in_exit_ne (by decide) ?_ | refine g_seq ?_ | refine g_region ?_ | refine g_block ?_ | refine g_ret ?_ | refine g_return_n ?_ | refine g_exit ?_ | refine g_skip ?_)
      first | refine o_load1 rfl rfl ?_ | refine o_loadE0 rfl (by assumption) rfl ?_ | refine o_loadE1 rfl (by assumption) rfl ?_
      first | refine o_loadN rfl rfl rfl ?_ | refine o_loadE rfl rfl (by assumption) ?_ | refine o_loadEN rfl (by assumption) rfl rfl ?_
      refine o_call (DropMSI_spec m ks1 x.k hk1 (by omega)) rfl rfl ?_
      rintro _ _ ⟨k2, there2, rfl, rfl, hk2⟩
      first | refine g_endt ?_ | refine g_end ?_
      have hs3 : Srt PgSI.cmp (cond there2 (ks1.eraseIdx k2) ks1) ∧ (cond there2 (ks1.eraseIdx k2) ks1).length ≤ ks1.length := by
        cases there2
        · exact ⟨hk1, Nat.le_refl _⟩
        · exact ⟨Srt.erase hk1 k2, List.length_eraseIdx_le _ _⟩
      generalize cond there2 (ks1.eraseIdx k2) ks1 = ks3 at hs3 ⊢
      refine openP p1 q1 pre fun S e T d => ?_
      repeat (first | refine g_endt ?_ | refine g_end ?_ | refine g_then ?_ | refine g_in_normal ?_ | refine g_then_ret ?_ | refine g_in_ret ?_ | refine g_then_exit ?_ | refine g_in_exit rfl ?_ | refine g_in_exit_ne (by decide) ?_ | refine g_seq ?_ | refine g_region ?_ | refine g_block ?_ | refine g_ret ?_ | refine g_return_n ?_ | refine g_exit ?_ | refine g_skip ?_)
      first | refine o_load1 rfl rfl ?_ | refine o_loadE0 rfl (by assumption) rfl ?_ | refine o_loadE1 rfl (by assumption) rfl ?_
      first | refine o_load1 rfl rfl ?_ | refine o_loadE0 rfl (by assumption) rfl ?_ | refine o_loadE1 rfl (by assumption) rfl ?_
      refine o_len rfl rfl ?_
      refine o_build (SymD.val ⟨7, ByteArray.empty, pre.length⟩) (fun w => by kernel_rfl) ?_
      refine o_call (PutMSI_spec m ks3 ⟨7, ByteArray.empty, pre.length⟩ 5 hs3.1 (by omega)) rfl rfl ?_
      rintro _ _ ⟨k4, there4, rfl, rfl, hk4⟩
      first | refine g_endt ?_ | refine g_end ?_
      obtain ⟨hs4, hl4⟩ := put_srt hs3.1 hk4
      generalize putLSI ks3 ⟨7, ByteArray.empty, pre.length⟩ 5 k4 there4 = ks5 at hs4 hl4 ⊢
      repeat (first | refine g_endt ?_ | refine g_end ?_ | refine g_then ?_ | refine g_in_normal ?_ | refine g_then_ret ?_ | refine g_in_ret ?_ | refine g_then_exit ?_ | refine g_in_exit rfl ?_ | refine g_in_exit_ne (by decide) ?_ | refine g_seq ?_ | refine g_region ?_ | refine g_block ?_ | refine g_ret ?_ | refine g_return_n ?_ | refine g_exit ?_ | refine g_skip ?_)
      first | refine o_load1 rfl rfl ?_ | refine o_loadE0 rfl (by assumption) rfl ?_ | refine o_loadE1 rfl (by assumption) rfl ?_
      refine o_loadN (v := x.k.val) rfl rfl rfl ?_
      refine o_litP (e := 27) encS [x.k] (x.k).val.cells (fun w => by kernel_rfl) (by simp [encS]) (by simp [maxLen]) fun _ => ?_
      refine o_append (xs := (pre.map PgSI.k)) (ys := [x.k]) (by simp only [List.length_map, List.length_take, List.length_append]; first | rfl | (congr 1; omega)) rfl rfl rfl rfl (fun _ => .inr trivial) (by simp [maxLen]; omega) (by simp; omega) fun S2 e2 => ?_
      refine o_store (v := .slice S2 (pre.length + 1) e2) rfl (by simp only [List.length_map]; rfl) rfl rfl rfl ?_
      first | refine g_endt ?_ | refine g_end ?_
      refine G.norm p1 #[.slice S2 (pre.length + 1) e2] rfl ?_
      repeat (first | refine g_endt ?_ | refine g_end ?_ | refine g_then ?_ | refine g_in_normal ?_ | refine g_then_ret ?_ | refine g_in_ret ?_ | refine g_then_exit ?_ | refine g_in_exit rfl ?_ | refine g_in_exit_ne (by decide) ?_ | refine g_seq ?_ | refine g_region ?_ | refine g_block ?_ | refine g_ret ?_ | refine g_return_n ?_ | refine g_exit ?_ | refine g_skip ?_)
      first | refine o_load1 rfl rfl ?_ | refine o_loadE0 rfl (by assumption) rfl ?_ | refine o_loadE1 rfl (by assumption) rfl ?_
      refine o_move ?_
      refine o_litP (e := 3) encI [x.v] #[.int .i64 (x.v)] (fun w => by kernel_rfl) (rfl) (by simp [maxLen]) fun _ => ?_
      refine o_append (xs := (pre.map PgSI.v)) (ys := [x.v]) (by simp only [List.length_map, List.length_take, List.length_append]; first | rfl | (congr 1; omega)) rfl rfl rfl rfl (fun _ => .inr trivial) (by simp [maxLen]; omega) (by simp; omega) fun T2 d2 => ?_
      refine o_store (v := .slice T2 (pre.length + 1) d2) rfl (by simp only [List.length_map]; rfl) rfl rfl rfl ?_
      first | refine g_endt ?_ | refine g_end ?_
      refine G.norm q1 #[.slice T2 (pre.length + 1) d2] rfl ?_
      repeat (first | refine g_endt ?_ | refine g_end ?_ | refine g_then ?_ | refine g_in_normal ?_ | refine g_then_ret ?_ | refine g_in_ret ?_ | refine g_then_exit ?_ | refine g_in_exit rfl ?_ | refine g_in_exit_ne (by decide) ?_ | refine g_seq ?_ | refine g_region ?_ | refine g_block ?_ | refine g_ret ?_ | refine g_return_n ?_ | refine g_exit ?_ | refine g_skip ?_)
      first | refine o_load1 rfl rfl ?_ | refine o_loadE0 rfl (by assumption) rfl ?_ | refine o_loadE1 rfl (by assumption) rfl ?_
      refine o_len rfl rfl ?_
      refine o_gtr rfl rfl ?_
      first | refine g_endt ?_ | refine g_end ?_
      first | refine g_seq (g_cond_f rfl (by simp; omega) ?_) | refine g_cond_f rfl (by simp; omega) ?_
      have e1 : pre.map PgSI.k ++ [x.k] = (pre ++ [x]).map PgSI.k := by simp
      have e2' : pre.map PgSI.v ++ [x.v] = (pre ++ [x]).map PgSI.v := by simp
      rw [e1, e2']
      refine shutP p1 q1 (pre ++ [x]) S2 T2 e2 d2 (n := pre.length + 1) (by simp) ?_
      refine shutMW m ys pre ks5 x hs4 (by omega) ?_
      repeat (first | refine g_endt ?_ | refine g_end ?_ | refine g_then ?_ | refine g_in_normal ?_ | refine g_then_ret ?_ | refine g_in_ret ?_ | refine g_then_exit ?_ | refine g_in_exit rfl ?_ | refine g_in_exit_ne (by decide) ?_ | refine g_seq ?_ | refine g_region ?_ | refine g_block ?_ | refine g_ret ?_ | refine g_return_n ?_ | refine g_exit ?_ | refine g_skip ?_)
      exact g_next
  · intro D
    refine openP p1 q1 ys fun S e T d => ?_
    refine openPl p ys fun K ck V cv hc => ?_
    refine G.bring [osl 27 encS 3 S e (ys.map PgSI.k)] ?_
    refine G.frz ?_
    refine G.bring [osl 3 encI 1 T d (ys.map PgSI.v)] ?_
    refine G.frz ?_
    refine G.bring [osl 3 encI 1 V cv (ys.map PgSI.v)] ?_
    refine G.frz ?_
    have hkl2 : (ys.map PgSI.k).length = ys.length := List.length_map _
    have hvl2 : (ys.map PgSI.v).length = ys.length := List.length_map _
    repeat (first | refine g_endt ?_ | refine g_end ?_ | refine g_then ?_ | refine g_in_normal ?_ | refine g_then_ret ?_ | refine g_in_ret ?_ | refine g_then_exit ?_ | refine g_in_exit rfl ?_ | refine g_in_exit_ne (by decide) ?_ | refine g_seq ?_ | refine g_region ?_ | refine g_block ?_ | refine g_ret ?_ | refine g_return_n ?_ | refine g_exit ?_ | refine g_skip ?_)
    refine g_draw [17] [0,1,2,3,4,5,6,7,8,9,10,11,12,13,14,15,16,17] [cellsB p1 #[.slice S ys.length e] 35, cellsB q1 #[.slice T ys.length d] 28, cellsB p #[.slice K ys.length ck, .slice V ys.length cv] 48, psl encS 3 S (ys.map PgSI.k), psl encS 3 K (ys.map PgSI.k), psl encI 1 T (ys.map PgSI.v), psl encI 1 V (ys.map PgSI.v)] mixed rfl ?_
    first | refine ob_q rfl rfl ⟨_, fun X Q h => o_load1 rfl rfl (g_end (h _ _ ⟨rfl, rfl⟩)), ?_⟩ | refine ob_q rfl rfl ⟨_, fun X Q h => o_loadE0 rfl (by assumption) rfl (g_end (h _ _ ⟨rfl, rfl⟩)), ?_⟩ | refine ob_q rfl rfl ⟨_, fun X Q h => o_loadE1 rfl (by assumption) rfl (g_end (h _ _ ⟨rfl, rfl⟩)), ?_⟩
    refine ob_q rfl rfl ⟨_, fun X Q h => o_move (g_end (h _ _ ⟨rfl, rfl⟩)), ?_⟩
    refine ob_q rfl rfl ⟨_, fun X Q h => o_nil rfl (g_end (h _ _ ⟨rfl, rfl⟩)), ?_⟩
    first | refine ob_q rfl rfl ⟨_, fun X Q h => o_field rfl (g_end (h _ _ ⟨rfl, rfl⟩)), ?_⟩ | refine ob_q rfl rfl ⟨_, fun X Q h => o_fieldR rfl (by omega) (g_end (h _ _ ⟨rfl, rfl⟩)), ?_⟩
    first | refine ob_q rfl rfl ⟨_, fun X Q h => o_load1 rfl rfl (g_end (h _ _ ⟨rfl, rfl⟩)), ?_⟩ | refine ob_q rfl rfl ⟨_, fun X Q h => o_loadE0 rfl (by assumption) rfl (g_end (h _ _ ⟨rfl, rfl⟩)), ?_⟩ | refine ob_q rfl rfl ⟨_, fun X Q h => o_loadE1 rfl (by assumption) rfl (g_end (h _ _ ⟨rfl, rfl⟩)), ?_⟩
    refine ob_q rfl rfl ⟨_, fun X Q h => o_callp (Syms_spec S K ys.length e ck (ys.map PgSI.k) hkl2 (by omega)) rfl rfl <| by rintro _ _ ⟨rfl, rfl⟩; exact (g_end (h _ _ ⟨rfl, rfl⟩)), ?_⟩
    refine ob_q rfl rfl ⟨_, fun X Q h => o_move (g_end (h _ _ ⟨rfl, rfl⟩)), ?_⟩
    first | refine ob_q rfl rfl ⟨_, fun X Q h => o_want rfl rfl rfl rfl rfl <| o_load1 rfl rfl (g_end (h _ _ ⟨rfl, rfl⟩)), ?_⟩ | refine ob_q rfl rfl ⟨_, fun X Q h => o_want rfl rfl rfl rfl rfl <| o_loadE0 rfl (by assumption) rfl (g_end (h _ _ ⟨rfl, rfl⟩)), ?_⟩ | refine ob_q rfl rfl ⟨_, fun X Q h => o_want rfl rfl rfl rfl rfl <| o_loadE1 rfl (by assumption) rfl (g_end (h _ _ ⟨rfl, rfl⟩)), ?_⟩ | refine ob_q rfl rfl ⟨_, fun X Q h => o_unwanted rfl rfl rfl rfl rfl (g_end (h _ _ ⟨rfl, rfl⟩)), ?_⟩ | refine ob_q rfl rfl ⟨_, fun X Q h => o_undef rfl rfl rfl (g_end (h _ _ ⟨rfl, rfl⟩)), ?_⟩
    first | refine ob_q rfl rfl ⟨_, fun X Q h => o_want rfl rfl rfl rfl rfl <| o_move (g_end (h _ _ ⟨rfl, rfl⟩)), ?_⟩ | refine ob_q rfl rfl ⟨_, fun X Q h => o_unwanted rfl rfl rfl rfl rfl (g_end (h _ _ ⟨rfl, rfl⟩)), ?_⟩ | refine ob_q rfl rfl ⟨_, fun X Q h => o_undef rfl rfl rfl (g_end (h _ _ ⟨rfl, rfl⟩)), ?_⟩
    first | refine ob_q rfl rfl ⟨_, fun X Q h => o_want rfl rfl rfl rfl rfl <| o_nil rfl (g_end (h _ _ ⟨rfl, rfl⟩)), ?_⟩ | refine ob_q rfl rfl ⟨_, fun X Q h => o_unwanted rfl rfl rfl rfl rfl (g_end (h _ _ ⟨rfl, rfl⟩)), ?_⟩ | refine ob_q rfl rfl ⟨_, fun X Q h => o_undef rfl rfl rfl (g_end (h _ _ ⟨rfl, rfl⟩)), ?_⟩
    first | refine ob_q rfl rfl ⟨_, fun X Q h => o_want rfl rfl rfl rfl rfl <| o_field rfl (g_end (h _ _ ⟨rfl, rfl⟩)), ?_⟩ | refine ob_q rfl rfl ⟨_, fun X Q h => o_want rfl rfl rfl rfl rfl <| o_fieldR rfl (by omega) (g_end (h _ _ ⟨rfl, rfl⟩)), ?_⟩ | refine ob_q rfl rfl ⟨_, fun X Q h => o_unwanted rfl rfl rfl rfl rfl (g_end (h _ _ ⟨rfl, rfl⟩)), ?_⟩ | refine ob_q rfl rfl ⟨_, fun X Q h => o_undef rfl rfl rfl (g_end (h _ _ ⟨rfl, rfl⟩)), ?_⟩
    first | refine ob_q rfl rfl ⟨_, fun X Q h => o_want rfl rfl rfl rfl rfl <| o_load1 rfl rfl (g_end (h _ _ ⟨rfl, rfl⟩)), ?_⟩ | refine ob_q rfl rfl ⟨_, fun X Q h => o_want rfl rfl rfl rfl rfl <| o_loadE0 rfl (by assumption) rfl (g_end (h _ _ ⟨rfl, rfl⟩)), ?_⟩ | refine ob_q rfl rfl ⟨_, fun X Q h => o_want rfl rfl rfl rfl rfl <| o_loadE1 rfl (by assumption) rfl (g_end (h _ _ ⟨rfl, rfl⟩)), ?_⟩ | refine ob_q rfl rfl ⟨_, fun X Q h => o_unwanted rfl rfl rfl rfl rfl (g_end (h _ _ ⟨rfl, rfl⟩)), ?_⟩ | refine ob_q rfl rfl ⟨_, fun X Q h => o_undef rfl rfl rfl (g_end (h _ _ ⟨rfl, rfl⟩)), ?_⟩
    refine ob_q rfl rfl ⟨_, fun X Q h => o_want rfl rfl rfl rfl rfl <| o_callp (Ints_spec T V ys.length d cv (ys.map PgSI.v) hvl2 (by omega)) rfl rfl <| by rintro _ _ ⟨rfl, rfl⟩; exact (g_end (h _ _ ⟨rfl, rfl⟩)), ?_⟩
    first | refine ob_q rfl rfl ⟨_, fun X Q h => o_pick_t rfl rfl (g_end (h _ _ ⟨rfl, rfl⟩)), ?_⟩ | refine ob_q rfl rfl ⟨_, fun X Q h => o_pick_f rfl rfl (g_end (h _ _ ⟨rfl, rfl⟩)), ?_⟩
    refine ob_q rfl rfl ⟨_, fun X Q h => o_move (g_end (h _ _ ⟨rfl, rfl⟩)), ?_⟩
    refine ob_q rfl rfl ⟨_, fun X Q h => o_want rfl rfl rfl rfl rfl <| o_call (wakes02_spec) rfl rfl <| by rintro _ _ ⟨rfl, rfl⟩; exact (g_end (h _ _ ⟨rfl, rfl⟩)), ?_⟩
    first | refine ob_q rfl rfl ⟨_, fun X Q h => o_pick_t rfl rfl (g_end (h _ _ ⟨rfl, rfl⟩)), ?_⟩ | refine ob_q rfl rfl ⟨_, fun X Q h => o_pick_f rfl rfl (g_end (h _ _ ⟨rfl, rfl⟩)), ?_⟩
    refine ob_l rfl rfl fun Qz hz => o_store rfl rfl rfl rfl rfl ?_
    refine g_end (hz _ _ ⟨_, ob_fin, ?_⟩)
    clear hz Qz
    refine ob_nil ?_
    refine G.norm r #[.bool true] rfl ?_
    repeat (first | refine g_endt ?_ | refine g_end ?_ | refine g_then ?_ | refine g_in_normal ?_ | refine g_then_ret ?_ | refine g_in_ret ?_ | refine g_then_exit ?_ | refine g_in_exit rfl ?_ | refine g_in_exit_ne (by decide) ?_ | refine g_seq ?_ | refine g_region ?_ | refine g_block ?_ | refine g_ret ?_ | refine g_return_n ?_ | refine g_exit ?_ | refine g_skip ?_)
    exact ret1 (K := []) rfl (resC1 (v := .bool true) rfl rfl) ⟨rfl, rfl⟩
  · intro D c pre hp
    exact G.pu fun h => h.elim
end Go.Proofs.Ytlognaddmbolgaa
