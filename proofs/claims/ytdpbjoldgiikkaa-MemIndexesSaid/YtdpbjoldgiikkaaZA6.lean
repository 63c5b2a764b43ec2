/- Parts of a proof, in order. -/
import Derived.Test.YtdpbjoldgiikkaaZA5
import Derived.ProofKit
import Derived.Deep.Slices
import Derived.Deep.Strs
import Derived.Lib.SmallJoins

set_option linter.unusedSimpArgs false
set_option linter.unusedVariables false
/- Two lists that read the same. -/
namespace Go.Proofs.Ytdpbjoldgiikkaa
open Go Go.Sl
attribute [local irreducible] Code.wpIn roundPost bodyPostM runL Ret Meets Begin

theorem ElemsO_spec (A B : Option Addr) (len cap cap' : Nat) (ys : List ElemD) (hl : ys.length = len) (hm : len ≤ 1000000000) : Ctr Try.prog 22 [.slice A len cap, .slice B len cap'] [osl 25 encE 12 A cap ys, psl encE 12 B ys]
    (fun v M => v = .bool true ∧ M = [osl 25 encE 12 A cap ys]) := by
  refine spec_of Try.func22 rfl Try.ntmps22 rfl fun w0 F => ?_
  -- ponder/ponderkeep.Elems
  repeat (first | refine g_endt ?_ | refine g_end ?_ | refine g_then ?_ | refine g_in_normal ?_ | refine g_then_ret ?_ | refine g_in_ret ?_ | refine g_then_exit ?_ | refine g_in_exit rfl ?_ | refine g_in_exit_ne (by decide) ?_ | refine g_seq ?_ | refine g_region ?_ | refine g_block ?_ | refine g_ret ?_ | refine g_return_n ?_ | refine g_exit ?_ | refine g_skip ?_)
  refine o_assign ?_
  first | refine g_endt ?_ | refine g_end ?_
  repeat (first | refine g_endt ?_ | refine g_end ?_ | refine g_then ?_ | refine g_in_normal ?_ | refine g_then_ret ?_ | refine g_in_ret ?_ | refine g_then_exit ?_ | refine g_in_exit rfl ?_ | refine g_in_exit_ne (by decide) ?_ | refine g_seq ?_ | refine g_region ?_ | refine g_block ?_ | refine g_ret ?_ | refine g_return_n ?_ | refine g_exit ?_ | refine g_skip ?_)
  refine o_move ?_
  refine o_len rfl rfl ?_
  refine o_move ?_
  refine o_len rfl rfl ?_
  refine o_neq rfl rfl ?_
  first | refine g_endt ?_ | refine g_end ?_
  first | refine g_seq (g_cond_f rfl (by first | rfl | (simp; done) | (simp; omega) | (simp; assumption)) ?_) | refine g_cond_f rfl (by first | rfl | (simp; done) | (simp; omega) | (simp; assumption)) ?_
  repeat (first | refine g_endt ?_ | refine g_end ?_ | refine g_then ?_ | refine g_in_normal ?_ | refine g_then_ret ?_ | refine g_in_ret ?_ | refine g_then_exit ?_ | refine g_in_exit rfl ?_ | refine g_in_exit_ne (by decide) ?_ | refine g_seq ?_ | refine g_region ?_ | refine g_block ?_ | refine g_ret ?_ | refine g_return_n ?_ | refine g_exit ?_ | refine g_skip ?_)
  refine o_assign ?_
  first | refine g_endt ?_ | refine g_end ?_
  repeat (first | refine g_endt ?_ | refine g_end ?_ | refine g_then ?_ | refine g_in_normal ?_ | refine g_then_ret ?_ | refine g_in_ret ?_ | refine g_then_exit ?_ | refine g_in_exit rfl ?_ | refine g_in_exit_ne (by decide) ?_ | refine g_seq ?_ | refine g_region ?_ | refine g_block ?_ | refine g_ret ?_ | refine g_return_n ?_ | refine g_exit ?_ | refine g_skip ?_)
  refine g_loop (σ := {i : Nat // i ≤ ys.length}) (S := fun i => [(0, .slice A len cap), (1, .slice B len cap'), (5, .int .i64 ((i.1 : Nat) : Int))])
    (H := fun i => [osl 25 encE 12 A cap ys, psl encE 12 B ys]) (μ := fun i => ys.length - i.1) (s0 := ⟨0, Nat.zero_le _⟩) (Sat.mem ⟨rfl, rfl, rfl, trivial⟩) ?_
  rintro ⟨i, hi⟩ ρ'
  dsimp only
  repeat (first | refine g_endt ?_ | refine g_end ?_ | refine g_then ?_ | refine g_in_normal ?_ | refine g_then_ret ?_ | refine g_in_ret ?_ | refine g_then_exit ?_ | refine g_in_exit rfl ?_ | refine g_in_exit_ne (by decide) ?_ | refine g_seq ?_ | refine g_region ?_ | refine g_block ?_ | refine g_ret ?_ | refine g_return_n ?_ | refine g_exit ?_ | refine g_skip ?_)
  refine o_move ?_
  refine o_move ?_
  refine o_len rfl rfl ?_
  refine o_lss rfl rfl ?_
  first | refine g_endt ?_ | refine g_end ?_
  by_cases h : i < len
  · first | refine g_seq (g_cond_t rfl (by first | rfl | (simp; done) | (simp; omega) | (simp; assumption)) ?_) | refine g_cond_t rfl (by first | rfl | (simp; done) | (simp; omega) | (simp; assumption)) ?_
    have hi' : i < ys.length := by omega
    obtain ⟨e, hz⟩ : ∃ e, ys[i]? = some e := ⟨_, List.getElem?_eq_getElem hi'⟩
    repeat (first | refine g_endt ?_ | refine g_end ?_ | refine g_then ?_ | refine g_in_normal ?_ | refine g_then_ret ?_ | refine g_in_ret ?_ | refine g_then_exit ?_ | refine g_in_exit rfl ?_ | refine g_in_exit_ne (by decide) ?_ | refine g_seq ?_ | refine g_region ?_ | refine g_block ?_ | refine g_ret ?_ | refine g_return_n ?_ | refine g_exit ?_ | refine g_skip ?_)
    refine g_draw [] [0,1,2,3,4,5,6,7,8] [osl 25 encE 12 A cap ys, psl encE 12 B ys] mixed rfl ?_
    refine ob_q rfl rfl ⟨_, fun X Q h => o_move (g_end (h _ _ ⟨rfl, rfl⟩)), ?_⟩
    refine ob_q rfl rfl ⟨_, fun X Q h => o_move (g_end (h _ _ ⟨rfl, rfl⟩)), ?_⟩
    refine ob_q rfl rfl ⟨_, fun X Q h => o_indexR rfl rfl rfl (by first | assumption | omega) (by first | rfl | assumption | omega) rfl (g_end (h _ _ ⟨rfl, rfl⟩)), ?_⟩
    first | refine ob_q rfl rfl ⟨_, fun X Q h => o_loadN rfl rfl rfl (g_end (h _ _ ⟨rfl, rfl⟩)), ?_⟩ | refine ob_q rfl rfl ⟨_, fun X Q h => o_loadE rfl rfl (by assumption) (g_end (h _ _ ⟨rfl, rfl⟩)), ?_⟩ | refine ob_q rfl rfl ⟨_, fun X Q h => o_loadEN rfl (by assumption) rfl rfl (g_end (h _ _ ⟨rfl, rfl⟩)), ?_⟩
    refine ob_q rfl rfl ⟨_, fun X Q h => o_move (g_end (h _ _ ⟨rfl, rfl⟩)), ?_⟩
    refine ob_q rfl rfl ⟨_, fun X Q h => o_move (g_end (h _ _ ⟨rfl, rfl⟩)), ?_⟩
    refine ob_q rfl rfl ⟨_, fun X Q h => o_indexR rfl rfl rfl (by first | assumption | omega) (by first | rfl | assumption | omega) rfl (g_end (h _ _ ⟨rfl, rfl⟩)), ?_⟩
    first | refine ob_q rfl rfl ⟨_, fun X Q h => o_loadN rfl rfl rfl (g_end (h _ _ ⟨rfl, rfl⟩)), ?_⟩ | refine ob_q rfl rfl ⟨_, fun X Q h => o_loadE rfl rfl (by assumption) (g_end (h _ _ ⟨rfl, rfl⟩)), ?_⟩ | refine ob_q rfl rfl ⟨_, fun X Q h => o_loadEN rfl (by assumption) rfl rfl (g_end (h _ _ ⟨rfl, rfl⟩)), ?_⟩
    refine ob_q rfl rfl ⟨_, fun X Q h => o_neqty rfl rfl (eq_elem e e) (g_end (h _ _ ⟨rfl, rfl⟩)), ?_⟩
    refine ob_nil ?_
    first | refine g_seq (g_cond_f rfl (by simp [ElemD.beq_self]) ?_) | refine g_cond_f rfl (by simp [ElemD.beq_self]) ?_
    repeat (first | refine g_endt ?_ | refine g_end ?_ | refine g_then ?_ | refine g_in_normal ?_ | refine g_then_ret ?_ | refine g_in_ret ?_ | refine g_then_exit ?_ | refine g_in_exit rfl ?_ | refine g_in_exit_ne (by decide) ?_ | refine g_seq ?_ | refine g_region ?_ | refine g_block ?_ | refine g_ret ?_ | refine g_return_n ?_ | refine g_exit ?_ | refine g_skip ?_)
    refine o_move ?_
    refine o_add (c := ((i + 1 : Nat) : Int)) rfl rfl (by omega) (by omega) (by omega) ?_
    refine o_assign ?_
    first | refine g_endt ?_ | refine g_end ?_
    repeat (first | refine g_endt ?_ | refine g_end ?_ | refine g_then ?_ | refine g_in_normal ?_ | refine g_then_ret ?_ | refine g_in_ret ?_ | refine g_then_exit ?_ | refine g_in_exit rfl ?_ | refine g_in_exit_ne (by decide) ?_ | refine g_seq ?_ | refine g_region ?_ | refine g_block ?_ | refine g_ret ?_ | refine g_return_n ?_ | refine g_exit ?_ | refine g_skip ?_)
    exact g_meets (⟨i + 1, hi'⟩) (by first | exact trivial | (dsimp only; omega)) (Sat.mem (by repeat (first | exact trivial | refine And.intro rfl ?_)))
  · first | refine g_seq (g_cond_f rfl (by simp; omega) ?_) | refine g_cond_f rfl (by simp; omega) ?_
    repeat (first | refine g_endt ?_ | refine g_end ?_ | refine g_then ?_ | refine g_in_normal ?_ | refine g_then_ret ?_ | refine g_in_ret ?_ | refine g_then_exit ?_ | refine g_in_exit rfl ?_ | refine g_in_exit_ne (by decide) ?_ | refine g_seq ?_ | refine g_region ?_ | refine g_block ?_ | refine g_ret ?_ | refine g_return_n ?_ | refine g_exit ?_ | refine g_skip ?_)
    refine o_assign ?_
    first | refine g_endt ?_ | refine g_end ?_
    repeat (first | refine g_endt ?_ | refine g_end ?_ | refine g_then ?_ | refine g_in_normal ?_ | refine g_then_ret ?_ | refine g_in_ret ?_ | refine g_then_exit ?_ | refine g_in_exit rfl ?_ | refine g_in_exit_ne (by decide) ?_ | refine g_seq ?_ | refine g_region ?_ | refine g_block ?_ | refine g_ret ?_ | refine g_return_n ?_ | refine g_exit ?_ | refine g_skip ?_)
    exact ret1 rfl (resT rfl) ⟨rfl, rfl⟩
/-- The same, what stays ahead. -/
theorem ElemsP_spec (A B : Option Addr) (len cap cap' : Nat) (ys : List ElemD) (hl : ys.length = len) (hm : len ≤ 1000000000) : Ctr Try.prog 22 [.slice A len cap, .slice B len cap'] ([psl encE 12 B ys] ++ [osl 25 encE 12 A cap ys])
    (fun v M => v = .bool true ∧ M = [osl 25 encE 12 A cap ys]) :=
  (ElemsO_spec A B len cap cap' ys hl hm).pre (sl_perm (List.Perm.swap _ _ _))
end Go.Proofs.Ytdpbjoldgiikkaa
/- A list copied. -/
namespace Go.Proofs.Ytdpbjoldgiikkaa
open Go Go.Sl
attribute [local irreducible] Code.wpIn roundPost bodyPostM runL Ret Meets Begin

theorem CopyE_spec (A : Option Addr) (len cap : Nat) (ys : List ElemD) (hl : ys.length = len) (hm : len ≤ 1000000) : Ctr Try.prog 29 [.slice A len cap] [psl encE 12 A ys]
    (fun v M => ∃ S c, v = .slice S len c ∧ M = [osl 25 encE 12 S c ys]) := by
  refine spec_of Try.func29 rfl Try.ntmps29 rfl fun w0 F => ?_
  repeat (first | refine g_endt ?_ | refine g_end ?_ | refine g_then ?_ | refine g_in_normal ?_ | refine g_then_ret ?_ | refine g_in_ret ?_ | refine g_then_exit ?_ | refine g_in_exit rfl ?_ | refine g_in_exit_ne (by decide) ?_ | refine g_seq ?_ | refine g_region ?_ | refine g_block ?_ | refine g_ret ?_ | refine g_return_n ?_ | refine g_exit ?_ | refine g_skip ?_)
  refine o_assign ?_
  first | refine g_endt ?_ | refine g_end ?_
  repeat (first | refine g_endt ?_ | refine g_end ?_ | refine g_then ?_ | refine g_in_normal ?_ | refine g_then_ret ?_ | refine g_in_ret ?_ | refine g_then_exit ?_ | refine g_in_exit rfl ?_ | refine g_in_exit_ne (by decide) ?_ | refine g_seq ?_ | refine g_region ?_ | refine g_block ?_ | refine g_ret ?_ | refine g_return_n ?_ | refine g_exit ?_ | refine g_skip ?_)
  refine o_move ?_
  refine G.nil_slice 25 encE 12 ?_
  refine o_append (xs := []) (ys := ys) rfl rfl rfl rfl hl (fun _ => .inr trivial) (by simp [maxLen]; omega) (by simp; omega) fun S c => ?_
  change G _ _ [osl 25 encE 12 S c ys, psl encE 12 A ys] _
  refine o_assign ?_
  first | refine g_endt ?_ | refine g_end ?_
  repeat (first | refine g_endt ?_ | refine g_end ?_ | refine g_then ?_ | refine g_in_normal ?_ | refine g_then_ret ?_ | refine g_in_ret ?_ | refine g_then_exit ?_ | refine g_in_exit rfl ?_ | refine g_in_exit_ne (by decide) ?_ | refine g_seq ?_ | refine g_region ?_ | refine g_block ?_ | refine g_ret ?_ | refine g_return_n ?_ | refine g_exit ?_ | refine g_skip ?_)
  exact ret1 rfl (resT (v := .slice S (0 + ys.length) c) rfl) ⟨S, c, by rw [Nat.zero_add, hl], rfl⟩
end Go.Proofs.Ytdpbjoldgiikkaa
/- What is told, as a list. -/
namespace Go.Proofs.Ytdpbjoldgiikkaa
open Go Go.Sl
attribute [local irreducible] Code.wpIn roundPost bodyPostM runL Ret Meets Begin

theorem ListE_spec (gf : FuncId) (lb : List Value) (xs : List ElemD) {n : Nat} (hn : xs.length = n) (hl : n ≤ 100000) (Ks : List SProp) [En Try.prog gf] (hit : ∀ K, Iter Try.prog gf lb encVE xs (K ++ Ks)) :
    Ctr Try.prog 23 [.func (.func gf) #[] lb.toArray] Ks (fun v M => ∃ S c, v = .slice S n c ∧ M = osl 25 encE 12 S c xs :: Ks) := by
  refine spec_of Try.func23 rfl Try.ntmps23 rfl fun w0 F => ?_
  subst hn
  -- ponder/ponderkeep.List[ponder/api.Elem]
  repeat (first | refine g_endt ?_ | refine g_end ?_ | refine g_then ?_ | refine g_in_normal ?_ | refine g_then_ret ?_ | refine g_in_ret ?_ | refine g_then_exit ?_ | refine g_in_exit rfl ?_ | refine g_in_exit_ne (by decide) ?_ | refine g_seq ?_ | refine g_region ?_ | refine g_block ?_ | refine g_ret ?_ | refine g_return_n ?_ | refine g_exit ?_ | refine g_skip ?_)
  refine o_assign ?_
  first | refine g_endt ?_ | refine g_end ?_
  repeat (first | refine g_endt ?_ | refine g_end ?_ | refine g_then ?_ | refine g_in_normal ?_ | refine g_then_ret ?_ | refine g_in_ret ?_ | refine g_then_exit ?_ | refine g_in_exit rfl ?_ | refine g_in_exit_ne (by decide) ?_ | refine g_seq ?_ | refine g_region ?_ | refine g_block ?_ | refine g_ret ?_ | refine g_return_n ?_ | refine g_exit ?_ | refine g_skip ?_)
  refine o_alloc fun p => ?_
  first | refine g_endt ?_ | refine g_end ?_
  repeat (first | refine g_endt ?_ | refine g_end ?_ | refine g_then ?_ | refine g_in_normal ?_ | refine g_then_ret ?_ | refine g_in_ret ?_ | refine g_then_exit ?_ | refine g_in_exit rfl ?_ | refine g_in_exit_ne (by decide) ?_ | refine g_seq ?_ | refine g_region ?_ | refine g_block ?_ | refine g_ret ?_ | refine g_return_n ?_ | refine g_exit ?_ | refine g_skip ?_)
  refine o_move ?_
  refine o_fnil rfl (fun w => by kernel_rfl) (fun w => by kernel_rfl) ?_
  first | refine g_endt ?_ | refine g_end ?_
  first | refine g_seq (g_cond_f rfl (by first | rfl | (simp; done) | (simp; omega) | (simp; assumption)) ?_) | refine g_cond_f rfl (by first | rfl | (simp; done) | (simp; omega) | (simp; assumption)) ?_
  repeat (first | refine g_endt ?_ | refine g_end ?_ | refine g_then ?_ | refine g_in_normal ?_ | refine g_then_ret ?_ | refine g_in_ret ?_ | refine g_then_exit ?_ | refine g_in_exit rfl ?_ | refine g_in_exit_ne (by decide) ?_ | refine g_seq ?_ | refine g_region ?_ | refine g_block ?_ | refine g_ret ?_ | refine g_return_n ?_ | refine g_exit ?_ | refine g_skip ?_)
  refine o_move ?_
  first | refine g_endt ?_ | refine g_end ?_
  repeat (first | refine g_endt ?_ | refine g_end ?_ | refine g_then ?_ | refine g_in_normal ?_ | refine g_then_ret ?_ | refine g_in_ret ?_ | refine g_then_exit ?_ | refine g_in_exit rfl ?_ | refine g_in_exit_ne (by decide) ?_ | refine g_seq ?_ | refine g_region ?_ | refine g_block ?_ | refine g_ret ?_ | refine g_return_n ?_ | refine g_exit ?_ | refine g_skip ?_)
  refine G.norm p #[.slice none 0 0] rfl ?_
  refine newGE p ?_
  refine g_range (ps := [8]) (enc := encVE) (xs := xs) rfl (fun pre => [GrowE p pre] ++ Ks) (fun _ _ => [pu False]) (fun K => hit [K, GrowE p []]) (fun _ => rfl) ?_ ?_ ?_
  · intro w0 F l r pre x hp
    have hlen : pre.length < xs.length := by
      obtain ⟨t, ht⟩ := hp
      have := congrArg List.length ht
      simp at this
      omega
    refine openGE p pre fun S e => ?_
    repeat (first | refine g_endt ?_ | refine g_end ?_ | refine g_then ?_ | refine g_in_normal ?_ | refine g_then_ret ?_ | refine g_in_ret ?_ | refine g_then_exit ?_ | refine g_in_exit rfl ?_ | refine g_in_exit_ne (by decide) ?_ | refine g_seq ?_ | refine g_region ?_ | refine g_block ?_ | refine g_ret ?_ | refine g_return_n ?_ | refine g_exit ?_ | refine g_skip ?_)
    refine o_alloc fun c => ?_
    refine o_store (v := ElemD.val x) rfl rfl rfl rfl rfl ?_
    first | refine g_endt ?_ | refine g_end ?_
    refine G.norm c (ElemD.val x).cells rfl ?_
    repeat (first | refine g_endt ?_ | refine g_end ?_ | refine g_then ?_ | refine g_in_normal ?_ | refine g_then_ret ?_ | refine g_in_ret ?_ | refine g_then_exit ?_ | refine g_in_exit rfl ?_ | refine g_in_exit_ne (by decide) ?_ | refine g_seq ?_ | refine g_region ?_ | refine g_block ?_ | refine g_ret ?_ | refine g_return_n ?_ | refine g_exit ?_ | refine g_skip ?_)
    refine g_begin ?_
    repeat (first | refine g_endt ?_ | refine g_end ?_ | refine g_then ?_ | refine g_in_normal ?_ | refine g_then_ret ?_ | refine g_in_ret ?_ | refine g_then_exit ?_ | refine g_in_exit rfl ?_ | refine g_in_exit_ne (by decide) ?_ | refine g_seq ?_ | refine g_region ?_ | refine g_block ?_ | refine g_ret ?_ | refine g_return_n ?_ | refine g_exit ?_ | refine g_skip ?_)
    first | refine o_load1 rfl rfl ?_ | refine o_loadE0 rfl (by assumption) rfl ?_ | refine o_loadE1 rfl (by assumption) rfl ?_
    refine o_loadN (v := ElemD.val x) rfl rfl rfl ?_
    refine o_litP (e := 25) encE [x] (ElemD.val x).cells (fun w => by kernel_rfl) (by simp [encE]) (by simp [maxLen]) fun _ => ?_
    refine o_append (xs := pre) (ys := [x]) (by first | rfl | (simp only [List.length_map, List.length_take, List.length_append]; first | rfl | (congr 1; omega))) rfl rfl rfl rfl (fun _ => .inr trivial) (by simp [maxLen]; omega) (by simp; omega) fun S2 e2 => ?_
    refine o_store (v := .slice S2 (pre.length + 1) e2) rfl rfl rfl rfl rfl ?_
    first | refine g_endt ?_ | refine g_end ?_
    refine G.norm p #[.slice S2 (pre.length + 1) e2] rfl ?_
    refine shutGE p (pre ++ [x]) S2 e2 (n := pre.length + 1) (by simp) ?_
    repeat (first | refine g_endt ?_ | refine g_end ?_ | refine g_then ?_ | refine g_in_normal ?_ | refine g_then_ret ?_ | refine g_in_ret ?_ | refine g_then_exit ?_ | refine g_in_exit rfl ?_ | refine g_in_exit_ne (by decide) ?_ | refine g_seq ?_ | refine g_region ?_ | refine g_block ?_ | refine g_ret ?_ | refine g_return_n ?_ | refine g_exit ?_ | refine g_skip ?_)
    exact g_next
  · intro D
    refine openGE p xs fun S e => ?_
    repeat (first | refine g_endt ?_ | refine g_end ?_ | refine g_then ?_ | refine g_in_normal ?_ | refine g_then_ret ?_ | refine g_in_ret ?_ | refine g_then_exit ?_ | refine g_in_exit rfl ?_ | refine g_in_exit_ne (by decide) ?_ | refine g_seq ?_ | refine g_region ?_ | refine g_block ?_ | refine g_ret ?_ | refine g_return_n ?_ | refine g_exit ?_ | refine g_skip ?_)
    first | refine o_load1 rfl rfl ?_ | refine o_loadE0 rfl (by assumption) rfl ?_ | refine o_loadE1 rfl (by assumption) rfl ?_
    refine o_assign ?_
    first | refine g_endt ?_ | refine g_end ?_
    repeat (first | refine g_endt ?_ | refine g_end ?_ | refine g_then ?_ | refine g_in_normal ?_ | refine g_then_ret ?_ | refine g_in_ret ?_ | refine g_then_exit ?_ | refine g_in_exit rfl ?_ | refine g_in_exit_ne (by decide) ?_ | refine g_seq ?_ | refine g_region ?_ | refine g_block ?_ | refine g_ret ?_ | refine g_return_n ?_ | refine g_exit ?_ | refine g_skip ?_)
    exact ret1 (K := osl 25 encE 12 S e xs :: Ks) rfl (resT rfl) ⟨S, e, rfl, rfl⟩
  · intro D c pre hp
    exact G.pu fun h => h.elim
end Go.Proofs.Ytdpbjoldgiikkaa
/- The law on whatever working memory is set to, walked. -/
namespace Go.Proofs.Ytdpbjoldgiikkaa
open Go Go.Sl
attribute [local irreducible] Exit.then Exit.inBlock Code.wpIn roundPost bodyPostM runL Ret Meets MeetsD Begin

theorem NewBad_spec (room : Int) (h : room < 1 ∨ 1024 < room) : Ctr Try.prog 11 [.int .i64 room] [] (fun v M => v = .tuple #[.pointer none, .int .i64 1] ∧ M = []) :=
  (New10_spec room).mono fun v M hh => by
    rcases hh with ⟨_, h⟩ | ⟨h2, _⟩
    · exact h
    · exact absurd h h2
structure RdB (room next : Int) (ts : List ElemD) (n : Nat) (r : RD) : Prop where
  nx1 : next ≤ r.next
  nx2 : r.next ≤ next + n
  ln : r.ts.length ≤ ts.length + n
  ad : r.added.length ≤ n
  gn : r.gone.length ≤ ts.length
theorem rdB (room next : Int) (ts l : List ElemD) : RdB room next ts l.length (setD room next ts l) := by
  have h1 := sortE_len' l
  have h2 : (freshD (sortE l) ts).length ≤ (sortE l).length := List.length_filter_le _ _
  have h3 : (stayD (sortE l) ts).length ≤ ts.length := List.length_filter_le _ _
  have h4 : (goneD (sortE l) ts).length ≤ ts.length := List.length_filter_le _ _
  have h5 := tagD_len next (freshD (sortE l) ts)
  unfold setD
  split
  · exact ⟨Int.le_refl _, by show next ≤ next + (l.length : Int); omega, by simp, by simp, by simp⟩
  · split
    · exact ⟨Int.le_refl _, by show next ≤ next + (l.length : Int); omega, by simp, by simp, by simp⟩
    · exact ⟨by show next ≤ next + ((freshD (sortE l) ts).length : Int); omega, by show next + ((freshD (sortE l) ts).length : Int) ≤ _; omega, by simp [h5]; omega, by simp [h5]; omega, h4⟩
abbrev rE (A : Option Addr) (rs : List (RowG ElemD)) : List SProp := [psl encRG 1 A rs, prowsG encE 12 rs]
set_option maxHeartbeats 4000000 in
theorem MemPlays_spec (room : Int) (A : Option Addr) (n c : Nat) (rs : List (RowG ElemD)) (hl : rs.length = n) (hn : n ≤ 9223372036854775807) (hrs : ∀ q ∈ rs, q.zs.length = q.len ∧ q.len ≤ 9223372036854775807) :
    Ctr Try.prog 7 [.int .i64 room, .slice A n c] [psl encRG 1 A rs, prowsG encE 12 rs] (fun v M => v = .bool true ∧ M = []) := by
  refine spec_of Try.func7 rfl Try.ntmps7 rfl fun w0 F => ?_
  -- hide
  -- ponder/ponderlaw10.MemPlays
  repeat (first | refine g_endt ?_ | refine g_end ?_ | refine g_then ?_ | refine g_in_normal ?_ | refine g_then_ret ?_ | refine g_in_ret ?_ | refine g_then_exit ?_ | refine g_in_exit rfl ?_ | refine g_in_exit_ne (by decide) ?_ | refine g_seq ?_ | refine g_region ?_ | refine g_block ?_ | refine g_ret ?_ | refine g_return_n ?_ | refine g_exit ?_ | refine g_skip ?_)
  refine g_hideR fun Q_ hQ_ => ?_
  refine o_assign ?_
  refine g_end (G.imp (hQ_ .normal _) ?_)
  clear hQ_ Q_
  try refine g_then ?_
  by_cases hbad : room < 1 ∨ 1024 < room
  · skip
    repeat (first | refine g_endt ?_ | refine g_end ?_ | refine g_then ?_ | refine g_in_normal ?_ | refine g_then_ret ?_ | refine g_in_ret ?_ | refine g_then_exit ?_ | refine g_in_exit rfl ?_ | refine g_in_exit_ne (by decide) ?_ | refine g_seq ?_ | refine g_region ?_ | refine g_block ?_ | refine g_ret ?_ | refine g_return_n ?_ | refine g_exit ?_ | refine g_skip ?_)
    refine g_hideR fun Q_ hQ_ => ?_
    refine o_move ?_
    refine o_call (NewBad_spec room hbad) rfl rfl ?_
    rintro _ _ ⟨rfl, rfl⟩
    refine o_move ?_
    refine o_extract rfl rfl ?_
    refine o_extract rfl rfl ?_
    refine o_assign ?_
    refine o_assign ?_
    refine g_end (G.imp (hQ_ .normal _) ?_)
    clear hQ_ Q_
    try refine g_then ?_
    repeat (first | refine g_endt ?_ | refine g_end ?_ | refine g_then ?_ | refine g_in_normal ?_ | refine g_then_ret ?_ | refine g_in_ret ?_ | refine g_then_exit ?_ | refine g_in_exit rfl ?_ | refine g_in_exit_ne (by decide) ?_ | refine g_seq ?_ | refine g_block ?_ | refine g_ret ?_ | refine g_return_n ?_ | refine g_exit ?_ | refine g_skip ?_)
    refine g_cutk (σ := Unit) (ds' := []) (S := fun _ => [(5, .pointer none), (6, .int .i64 1), (28, .bool true)]) (H := fun _ => [psl encRG 1 A rs, prowsG encE 12 rs]) (ok := fun _ => True) ?_ ?_
    · by_cases h1 : room < 1
      · skip
        repeat (first | refine g_endt ?_ | refine g_end ?_ | refine g_then ?_ | refine g_in_normal ?_ | refine g_then_ret ?_ | refine g_in_ret ?_ | refine g_then_exit ?_ | refine g_in_exit rfl ?_ | refine g_in_exit_ne (by decide) ?_ | refine g_seq ?_ | refine g_region ?_ | refine g_block ?_ | refine g_ret ?_ | refine g_return_n ?_ | refine g_exit ?_ | refine g_skip ?_)
        refine g_hideR fun Q_ hQ_ => ?_
        refine o_move ?_
        refine o_lss rfl rfl ?_
        rw [decide_eq_true h1]
        refine o_move ?_
        first | (refine o_want rfl rfl rfl rfl rfl ?_; refine o_move ?_) | refine o_unwanted rfl rfl rfl rfl rfl ?_ | refine o_undef rfl rfl rfl ?_
        first | (refine o_want rfl rfl rfl rfl rfl ?_; refine o_gtr rfl rfl ?_) | refine o_unwanted rfl rfl rfl rfl rfl ?_ | refine o_undef rfl rfl rfl ?_
        first | refine o_pick_t rfl rfl ?_ | refine o_pick_f rfl rfl ?_
        refine g_end (G.imp (hQ_ .normal _) ?_)
        clear hQ_ Q_
        try refine g_then ?_
        exact g_meets () trivial (Sat.mem ⟨rfl, rfl, rfl, trivial⟩)
      · skip
        repeat (first | refine g_endt ?_ | refine g_end ?_ | refine g_then ?_ | refine g_in_normal ?_ | refine g_then_ret ?_ | refine g_in_ret ?_ | refine g_then_exit ?_ | refine g_in_exit rfl ?_ | refine g_in_exit_ne (by decide) ?_ | refine g_seq ?_ | refine g_region ?_ | refine g_block ?_ | refine g_ret ?_ | refine g_return_n ?_ | refine g_exit ?_ | refine g_skip ?_)
        refine g_hideR fun Q_ hQ_ => ?_
        refine o_move ?_
        refine o_lss rfl rfl ?_
        rw [decide_eq_false h1]
        refine o_move ?_
        first | (refine o_want rfl rfl rfl rfl rfl ?_; refine o_move ?_) | refine o_unwanted rfl rfl rfl rfl rfl ?_ | refine o_undef rfl rfl rfl ?_
        first | (refine o_want rfl rfl rfl rfl rfl ?_; refine o_gtr rfl rfl ?_) | refine o_unwanted rfl rfl rfl rfl rfl ?_ | refine o_undef rfl rfl rfl ?_
        rw [show decide (room > 1024) = true from decide_eq_true (by omega)]
        first | refine o_pick_t rfl rfl ?_ | refine o_pick_f rfl rfl ?_
        refine g_end (G.imp (hQ_ .normal _) ?_)
        clear hQ_ Q_
        try refine g_then ?_
        exact g_meets () trivial (Sat.mem ⟨rfl, rfl, rfl, trivial⟩)
    intro _ ρ2 _
    first | refine g_seq (g_cond_t rfl (by first | rfl | (simp; done) | (simp; omega) | (simp; assumption)) ?_) | refine g_cond_t rfl (by first | rfl | (simp; done) | (simp; omega) | (simp; assumption)) ?_
    repeat (first | refine g_endt ?_ | refine g_end ?_ | refine g_then ?_ | refine g_in_normal ?_ | refine g_then_ret ?_ | refine g_in_ret ?_ | refine g_then_exit ?_ | refine g_in_exit rfl ?_ | refine g_in_exit_ne (by decide) ?_ | refine g_seq ?_ | refine g_region ?_ | refine g_block ?_ | refine g_ret ?_ | refine g_return_n ?_ | refine g_exit ?_ | refine g_skip ?_)
    refine g_hideR fun Q_ hQ_ => ?_
    refine o_move ?_
    refine o_eql rfl rfl ?_
    refine o_move ?_
    first | (refine o_want rfl rfl rfl rfl rfl ?_; refine o_move ?_) | refine o_unwanted rfl rfl rfl rfl rfl ?_ | refine o_undef rfl rfl rfl ?_
    first | (refine o_want rfl rfl rfl rfl rfl ?_; refine o_peql rfl ?_) | refine o_unwanted rfl rfl rfl rfl rfl ?_ | refine o_undef rfl rfl rfl ?_
    first | refine o_pick_t rfl rfl ?_ | refine o_pick_f rfl rfl ?_
    refine o_move ?_
    refine o_want rfl rfl rfl rfl rfl (o_call (wakes10_spec) rfl rfl ?_)
    rintro _ _ ⟨rfl, rfl⟩
    first | refine o_pick_t rfl rfl ?_ | refine o_pick_f rfl rfl ?_
    refine o_assign ?_
    refine g_end (G.imp (hQ_ .normal _) ?_)
    clear hQ_ Q_
    try refine g_then ?_
    repeat (first | refine g_endt ?_ | refine g_end ?_ | refine g_then ?_ | refine g_in_normal ?_ | refine g_then_ret ?_ | refine g_in_ret ?_ | refine g_then_exit ?_ | refine g_in_exit rfl ?_ | refine g_in_exit_ne (by decide) ?_ | refine g_seq ?_ | refine g_region ?_ | refine g_block ?_ | refine g_ret ?_ | refine g_return_n ?_ | refine g_exit ?_ | refine g_skip ?_)
    exact ret1 (K := []) rfl (resT rfl) ⟨rfl, rfl⟩
  have h1 : ¬ room < 1 := fun h => hbad (.inl h)
  have h2 : ¬ 1024 < room := fun h => hbad (.inr h)
  repeat (first | refine g_endt ?_ | refine g_end ?_ | refine g_then ?_ | refine g_in_normal ?_ | refine g_then_ret ?_ | refine g_in_ret ?_ | refine g_then_exit ?_ | refine g_in_exit rfl ?_ | refine g_in_exit_ne (by decide) ?_ | refine g_seq ?_ | refine g_region ?_ | refine g_block ?_ | refine g_ret ?_ | refine g_return_n ?_ | refine g_exit ?_ | refine g_skip ?_)
  refine g_hideR fun Q_ hQ_ => ?_
  refine o_move ?_
  refine o_call (NewG_spec room (by omega) (by omega)) rfl rfl ?_
  rintro _ _ ⟨s, rfl, rfl⟩
  refine o_move ?_
  refine o_extract rfl rfl ?_
  refine o_extract rfl rfl ?_
  refine o_assign ?_
  refine o_assign ?_
  refine g_end (G.imp (hQ_ .normal _) ?_)
  clear hQ_ Q_
  try refine g_then ?_
  repeat (first | refine g_endt ?_ | refine g_end ?_ | refine g_then ?_ | refine g_in_normal ?_ | refine g_then_ret ?_ | refine g_in_ret ?_ | refine g_then_exit ?_ | refine g_in_exit rfl ?_ | refine g_in_exit_ne (by decide) ?_ | refine g_seq ?_ | refine g_region ?_ | refine g_block ?_ | refine g_ret ?_ | refine g_return_n ?_ | refine g_exit ?_ | refine g_skip ?_)
  refine g_hideR fun Q_ hQ_ => ?_
  refine o_move ?_
  refine o_lss rfl rfl ?_
  rw [decide_eq_false h1]
  refine o_move ?_
  first | (refine o_want rfl rfl rfl rfl rfl ?_; refine o_move ?_) | refine o_unwanted rfl rfl rfl rfl rfl ?_ | refine o_undef rfl rfl rfl ?_
  first | (refine o_want rfl rfl rfl rfl rfl ?_; refine o_gtr rfl rfl ?_) | refine o_unwanted rfl rfl rfl rfl rfl ?_ | refine o_undef rfl rfl rfl ?_
  rw [show decide (room > 1024) = false from decide_eq_false h2]
  first | refine o_pick_t rfl rfl ?_ | refine o_pick_f rfl rfl ?_
  refine g_end (G.imp (hQ_ .normal _) ?_)
  clear hQ_ Q_
  try refine g_then ?_
  first | refine g_seq (g_cond_f rfl (by first | rfl | (simp; done) | (simp; omega) | (simp; assumption)) ?_) | refine g_cond_f rfl (by first | rfl | (simp; done) | (simp; omega) | (simp; assumption)) ?_
  repeat (first | refine g_endt ?_ | refine g_end ?_ | refine g_then ?_ | refine g_in_normal ?_ | refine g_then_ret ?_ | refine g_in_ret ?_ | refine g_then_exit ?_ | refine g_in_exit rfl ?_ | refine g_in_exit_ne (by decide) ?_ | refine g_seq ?_ | refine g_region ?_ | refine g_block ?_ | refine g_ret ?_ | refine g_return_n ?_ | refine g_exit ?_ | refine g_skip ?_)
  refine g_hideR fun Q_ hQ_ => ?_
  refine o_move ?_
  refine o_neq rfl rfl ?_
  refine o_move ?_
  first | (refine o_want rfl rfl rfl rfl rfl ?_; refine o_move ?_) | refine o_unwanted rfl rfl rfl rfl rfl ?_ | refine o_undef rfl rfl rfl ?_
  first | (refine o_want rfl rfl rfl rfl rfl ?_; refine o_peql rfl ?_) | refine o_unwanted rfl rfl rfl rfl rfl ?_ | refine o_undef rfl rfl rfl ?_
  first | refine o_pick_t rfl rfl ?_ | refine o_pick_f rfl rfl ?_
  refine g_end (G.imp (hQ_ .normal _) ?_)
  clear hQ_ Q_
  try refine g_then ?_
  first | refine g_seq (g_cond_f rfl (by first | rfl | (simp; done) | (simp; omega) | (simp; assumption)) ?_) | refine g_cond_f rfl (by first | rfl | (simp; done) | (simp; omega) | (simp; assumption)) ?_
  repeat (first | refine g_endt ?_ | refine g_end ?_ | refine g_then ?_ | refine g_in_normal ?_ | refine g_then_ret ?_ | refine g_in_ret ?_ | refine g_then_exit ?_ | refine g_in_exit rfl ?_ | refine g_in_exit_ne (by decide) ?_ | refine g_seq ?_ | refine g_region ?_ | refine g_block ?_ | refine g_ret ?_ | refine g_return_n ?_ | refine g_exit ?_ | refine g_skip ?_)
  refine g_hideR fun Q_ hQ_ => ?_
  refine o_move ?_
  refine o_build ((.agg #[.int .i64 room, .int .i64 1, .slice none 0 0])) (fun w => by kernel_rfl) ?_
  refine o_boxc #[.int .i64 room, .int .i64 1, .slice none 0 0] rfl rfl fun r => ?_
  refine o_assign ?_
  refine g_end (G.imp (hQ_ .normal _) ?_)
  clear hQ_ Q_
  try refine g_then ?_
  refine G.nil_slice 25 encE 12 ?_
  refine G.freeze_slice ?_
  refine shutRf r room 1 [] none 0 0 rfl ?_
  repeat (first | refine g_endt ?_ | refine g_end ?_ | refine g_then ?_ | refine g_in_normal ?_ | refine g_then_ret ?_ | refine g_in_ret ?_ | refine g_then_exit ?_ | refine g_in_exit rfl ?_ | refine g_in_exit_ne (by decide) ?_ | refine g_seq ?_ | refine g_region ?_ | refine g_block ?_ | refine g_ret ?_ | refine g_return_n ?_ | refine g_exit ?_ | refine g_skip ?_)
  refine g_hideR fun Q_ hQ_ => ?_
  refine o_assign ?_
  refine g_end (G.imp (hQ_ .normal _) ?_)
  clear hQ_ Q_
  try refine g_then ?_
  repeat (first | refine g_endt ?_ | refine g_end ?_ | refine g_then ?_ | refine g_in_normal ?_ | refine g_then_ret ?_ | refine g_in_ret ?_ | refine g_then_exit ?_ | refine g_in_exit rfl ?_ | refine g_in_exit_ne (by decide) ?_ | refine g_seq ?_ | refine g_region ?_ | refine g_block ?_ | refine g_ret ?_ | refine g_return_n ?_ | refine g_exit ?_ | refine g_skip ?_)
  refine g_loop (σ := {t : Nat × Int × List ElemD // t.1 ≤ n ∧ t.1 ≤ 12 ∧ 1 ≤ t.2.1 ∧ t.2.1 ≤ 1 + 40 * (t.1 : Int) ∧ t.2.2.length ≤ 40 * t.1}) (S := fun t => [(1, .slice A n c), (5, .pointer (some ⟨s, 0, none⟩)), (7, .pointer (some ⟨r, 0, none⟩)), (8, .int .i64 (t.1.1 : Int))])
    (H := fun t => [StP s room t.1.2.1 t.1.2.2, RefP r room t.1.2.1 t.1.2.2, psl encRG 1 A rs, prowsG encE 12 rs]) (μ := fun t => n - t.1.1) (s0 := ⟨(0, 1, []), Nat.zero_le _, by decide, by decide, by decide, by decide⟩) (Sat.mem ⟨rfl, rfl, rfl, rfl, trivial⟩)
    (t := (inferInstance : Take _ [StP s room 1 [], RefP r room 1 [], psl encRG 1 A rs, prowsG encE 12 rs] _)) ?_
  rintro ⟨⟨i, next, ts⟩, hi, hi12, hx1, hx2, hts⟩ ρ'
  dsimp only at hi hi12 hx1 hx2 hts ⊢
  repeat (first | refine g_endt ?_ | refine g_end ?_ | refine g_then ?_ | refine g_in_normal ?_ | refine g_then_ret ?_ | refine g_in_ret ?_ | refine g_then_exit ?_ | refine g_in_exit rfl ?_ | refine g_in_exit_ne (by decide) ?_ | refine g_seq ?_ | refine g_block ?_ | refine g_ret ?_ | refine g_return_n ?_ | refine g_exit ?_ | refine g_skip ?_)
  refine g_cutk (σ := Unit) (ds' := []) (S := fun _ => [(1, .slice A n c), (5, .pointer (some ⟨s, 0, none⟩)), (7, .pointer (some ⟨r, 0, none⟩)), (8, .int .i64 (i : Int)), (54, .bool (decide (i < n) && decide (i < 12)))]) (H := fun _ => [StP s room next ts, RefP r room next ts, psl encRG 1 A rs, prowsG encE 12 rs]) (ok := fun _ => True) ?_ ?_
  · by_cases hin : i < n
    · rw [decide_eq_true hin, Bool.true_and]
      repeat (first | refine g_endt ?_ | refine g_end ?_ | refine g_then ?_ | refine g_in_normal ?_ | refine g_then_ret ?_ | refine g_in_ret ?_ | refine g_then_exit ?_ | refine g_in_exit rfl ?_ | refine g_in_exit_ne (by decide) ?_ | refine g_seq ?_ | refine g_region ?_ | refine g_block ?_ | refine g_ret ?_ | refine g_return_n ?_ | refine g_exit ?_ | refine g_skip ?_)
      refine g_hideR fun Q_ hQ_ => ?_
      refine o_move ?_
      refine o_move ?_
      refine o_len rfl rfl ?_
      refine o_lss rfl rfl ?_
      rw [show decide ((i : Int) < (n : Int)) = true from decide_eq_true (by omega)]
      refine o_move ?_
      first | (refine o_want rfl rfl rfl rfl rfl ?_; refine o_move ?_) | refine o_unwanted rfl rfl rfl rfl rfl ?_ | refine o_undef rfl rfl rfl ?_
      first | (refine o_want rfl rfl rfl rfl rfl ?_; refine o_lss rfl rfl ?_) | refine o_unwanted rfl rfl rfl rfl rfl ?_ | refine o_undef rfl rfl rfl ?_
      rw [show decide ((i : Int) < 12) = decide (i < 12) from by rw [decide_eq_decide]; omega]
      first | refine o_pick_t rfl rfl ?_ | refine o_pick_f rfl rfl ?_
      refine g_end (G.imp (hQ_ .normal _) ?_)
      clear hQ_ Q_
      try refine g_then ?_
      exact g_meets () trivial (Sat.mem ⟨rfl, rfl, rfl, rfl, rfl, trivial⟩)
    · rw [decide_eq_false hin, Bool.false_and]
      repeat (first | refine g_endt ?_ | refine g_end ?_ | refine g_then ?_ | refine g_in_normal ?_ | refine g_then_ret ?_ | refine g_in_ret ?_ | refine g_then_exit ?_ | refine g_in_exit rfl ?_ | refine g_in_exit_ne (by decide) ?_ | refine g_seq ?_ | refine g_region ?_ | refine g_block ?_ | refine g_ret ?_ | refine g_return_n ?_ | refine g_exit ?_ | refine g_skip ?_)
      refine g_hideR fun Q_ hQ_ => ?_
      refine o_move ?_
      refine o_move ?_
      refine o_len rfl rfl ?_
      refine o_lss rfl rfl ?_
      rw [show decide ((i : Int) < (n : Int)) = false from decide_eq_false (by omega)]
      refine o_move ?_
      first | (refine o_want rfl rfl rfl rfl rfl ?_; refine o_move ?_) | refine o_unwanted rfl rfl rfl rfl rfl ?_ | refine o_undef rfl rfl rfl ?_
      first | (refine o_want rfl rfl rfl rfl rfl ?_; refine o_lss rfl rfl ?_) | refine o_unwanted rfl rfl rfl rfl rfl ?_ | refine o_undef rfl rfl rfl ?_
      first | refine o_pick_t rfl rfl ?_ | refine o_pick_f rfl rfl ?_
      refine g_end (G.imp (hQ_ .normal _) ?_)
      clear hQ_ Q_
      try refine g_then ?_
      exact g_meets () trivial (Sat.mem ⟨rfl, rfl, rfl, rfl, rfl, trivial⟩)
  intro _ ρ2 _
  cases hgo : (decide (i < n) && decide (i < 12)) with
  | false =>
    first | refine g_seq (g_cond_f rfl (by first | rfl | (simp; done) | (simp; omega) | (simp; assumption)) ?_) | refine g_cond_f rfl (by first | rfl | (simp; done) | (simp; omega) | (simp; assumption)) ?_
    repeat (first | refine g_endt ?_ | refine g_end ?_ | refine g_then ?_ | refine g_in_normal ?_ | refine g_then_ret ?_ | refine g_in_ret ?_ | refine g_then_exit ?_ | refine g_in_exit rfl ?_ | refine g_in_exit_ne (by decide) ?_ | refine g_seq ?_ | refine g_region ?_ | refine g_block ?_ | refine g_ret ?_ | refine g_return_n ?_ | refine g_exit ?_ | refine g_skip ?_)
    refine g_hideR fun Q_ hQ_ => ?_
    refine o_call (wakes10_spec) rfl rfl ?_
    rintro _ _ ⟨rfl, rfl⟩
    refine o_assign ?_
    refine g_end (G.imp (hQ_ .normal _) ?_)
    clear hQ_ Q_
    try refine g_then ?_
    repeat (first | refine g_endt ?_ | refine g_end ?_ | refine g_then ?_ | refine g_in_normal ?_ | refine g_then_ret ?_ | refine g_in_ret ?_ | refine g_then_exit ?_ | refine g_in_exit rfl ?_ | refine g_in_exit_ne (by decide) ?_ | refine g_seq ?_ | refine g_region ?_ | refine g_block ?_ | refine g_ret ?_ | refine g_return_n ?_ | refine g_exit ?_ | refine g_skip ?_)
    exact ret1 (K := []) rfl (resT rfl) ⟨rfl, rfl⟩
  | true =>
    rw [Bool.and_eq_true, decide_eq_true_eq, decide_eq_true_eq] at hgo
    obtain ⟨hin, hi12'⟩ := hgo
    first | refine g_seq (g_cond_t rfl (by first | rfl | (simp; done) | (simp; omega) | (simp; assumption)) ?_) | refine g_cond_t rfl (by first | rfl | (simp; done) | (simp; omega) | (simp; assumption)) ?_
    repeat (first | refine g_endt ?_ | refine g_end ?_ | refine g_then ?_ | refine g_in_normal ?_ | refine g_then_ret ?_ | refine g_in_ret ?_ | refine g_then_exit ?_ | refine g_in_exit rfl ?_ | refine g_in_exit_ne (by decide) ?_ | refine g_seq ?_ | refine g_region ?_ | refine g_block ?_ | refine g_ret ?_ | refine g_return_n ?_ | refine g_exit ?_ | refine g_skip ?_)
    obtain ⟨q, hq⟩ : ∃ q, rs[i]? = some q := ⟨_, List.getElem?_eq_getElem (by omega)⟩
    have hqm := List.mem_of_getElem? hq
    obtain ⟨hql, hqn⟩ := hrs q hqm
    refine G.rowG (enc := encE) (sz := 12) hqm ?_
    repeat (first | refine g_endt ?_ | refine g_end ?_ | refine g_then ?_ | refine g_in_normal ?_ | refine g_then_ret ?_ | refine g_in_ret ?_ | refine g_then_exit ?_ | refine g_in_exit rfl ?_ | refine g_in_exit_ne (by decide) ?_ | refine g_seq ?_ | refine g_region ?_ | refine g_block ?_ | refine g_ret ?_ | refine g_return_n ?_ | refine g_exit ?_ | refine g_skip ?_)
    refine g_hideR fun Q_ hQ_ => ?_
    refine o_move ?_
    refine o_move ?_
    refine o_indexR (ys := rs) (i := i) rfl rfl rfl (by omega) hl rfl ?_
    refine o_loadE0 (ys := rs) (v := .slice q.a q.len q.cap) rfl hq rfl ?_
    refine o_callp (light_spec q.a q.len q.cap 40 q.zs hql hqn (by decide)) rfl rfl ?_
    rintro _ _ ⟨rfl, rfl⟩
    refine o_not rfl ?_
    refine g_end (G.imp (hQ_ .normal _) ?_)
    clear hQ_ Q_
    try refine g_then ?_
    cases hlt : lightE q.zs 40 with
    | false =>
      first | refine g_seq (g_cond_t rfl (by first | rfl | (simp; done) | (simp; omega) | (simp; assumption)) ?_) | refine g_cond_t rfl (by first | rfl | (simp; done) | (simp; omega) | (simp; assumption)) ?_
      repeat (first | refine g_endt ?_ | refine g_end ?_ | refine g_then ?_ | refine g_in_normal ?_ | refine g_then_ret ?_ | refine g_in_ret ?_ | refine g_then_exit ?_ | refine g_in_exit rfl ?_ | refine g_in_exit_ne (by decide) ?_ | refine g_seq ?_ | refine g_region ?_ | refine g_block ?_ | refine g_ret ?_ | refine g_return_n ?_ | refine g_exit ?_ | refine g_skip ?_)
      refine g_hideR fun Q_ hQ_ => ?_
      refine o_call (wakes10_spec) rfl rfl ?_
      rintro _ _ ⟨rfl, rfl⟩
      refine o_assign ?_
      refine g_end (G.imp (hQ_ .normal _) ?_)
      clear hQ_ Q_
      try refine g_then ?_
      repeat (first | refine g_endt ?_ | refine g_end ?_ | refine g_then ?_ | refine g_in_normal ?_ | refine g_then_ret ?_ | refine g_in_ret ?_ | refine g_then_exit ?_ | refine g_in_exit rfl ?_ | refine g_in_exit_ne (by decide) ?_ | refine g_seq ?_ | refine g_region ?_ | refine g_block ?_ | refine g_ret ?_ | refine g_return_n ?_ | refine g_exit ?_ | refine g_skip ?_)
      exact ret1 (K := []) rfl (resT rfl) ⟨rfl, rfl⟩
    | true =>
      first | refine g_seq (g_cond_f rfl (by first | rfl | (simp; done) | (simp; omega) | (simp; assumption)) ?_) | refine g_cond_f rfl (by first | rfl | (simp; done) | (simp; omega) | (simp; assumption)) ?_
      obtain ⟨hq40, hsm⟩ := light_small hlt
      obtain ⟨R, hR⟩ : ∃ R, setD room next ts q.zs = R := ⟨_, rfl⟩
      have hRb : RdB room next ts q.zs.length R := by rw [← hR]; exact rdB room next ts q.zs
      obtain ⟨b1, b2, b3, b4, b5⟩ := hRb
      repeat (first | refine g_endt ?_ | refine g_end ?_ | refine g_then ?_ | refine g_in_normal ?_ | refine g_then_ret ?_ | refine g_in_ret ?_ | refine g_then_exit ?_ | refine g_in_exit rfl ?_ | refine g_in_exit_ne (by decide) ?_ | refine g_seq ?_ | refine g_region ?_ | refine g_block ?_ | refine g_ret ?_ | refine g_return_n ?_ | refine g_exit ?_ | refine g_skip ?_)
      refine g_hideR fun Q_ hQ_ => ?_
      refine o_move ?_
      refine o_move ?_
      refine o_indexR (ys := rs) (i := i) rfl rfl rfl (by omega) hl rfl ?_
      refine o_loadE0 (ys := rs) (v := .slice q.a q.len q.cap) rfl hq rfl ?_
      refine o_callp (CopyE_spec q.a q.len q.cap q.zs hql (by omega)) rfl rfl ?_
      rintro _ _ ⟨S1, c1, rfl, rfl⟩
      refine o_assign ?_
      refine g_end (G.imp (hQ_ .normal _) ?_)
      clear hQ_ Q_
      try refine g_then ?_
      refine G.bring [oE S1 c1 q.zs] ?_
      refine G.frz ?_
      repeat (first | refine g_endt ?_ | refine g_end ?_ | refine g_then ?_ | refine g_in_normal ?_ | refine g_then_ret ?_ | refine g_in_ret ?_ | refine g_then_exit ?_ | refine g_in_exit rfl ?_ | refine g_in_exit_ne (by decide) ?_ | refine g_seq ?_ | refine g_region ?_ | refine g_block ?_ | refine g_ret ?_ | refine g_return_n ?_ | refine g_exit ?_ | refine g_skip ?_)
      refine g_hideR fun Q_ hQ_ => ?_
      refine o_move ?_
      refine o_move ?_
      refine o_call (SetK_spec s room next ts S1 q.len c1 q.zs hql (by omega) hsm (by omega) (by omega) ⟨by omega, by omega⟩ hR) rfl rfl ?_
      rintro _ _ ⟨U, u, W, w, rfl, rfl⟩
      refine o_move ?_
      refine o_extract rfl rfl ?_
      refine o_extract rfl rfl ?_
      refine o_extract rfl rfl ?_
      refine o_assign ?_
      refine o_assign ?_
      refine o_assign ?_
      refine g_end (G.imp (hQ_ .normal _) ?_)
      clear hQ_ Q_
      try refine g_then ?_
      repeat (first | refine g_endt ?_ | refine g_end ?_ | refine g_then ?_ | refine g_in_normal ?_ | refine g_then_ret ?_ | refine g_in_ret ?_ | refine g_then_exit ?_ | refine g_in_exit rfl ?_ | refine g_in_exit_ne (by decide) ?_ | refine g_seq ?_ | refine g_region ?_ | refine g_block ?_ | refine g_ret ?_ | refine g_return_n ?_ | refine g_exit ?_ | refine g_skip ?_)
      refine g_hideR fun Q_ hQ_ => ?_
      refine o_move ?_
      refine o_move ?_
      refine o_move ?_
      refine o_indexR (ys := rs) (i := i) rfl rfl rfl (by omega) hl rfl ?_
      refine o_loadE0 (ys := rs) (v := .slice q.a q.len q.cap) rfl hq rfl ?_
      refine o_call (RSetK_spec r room next ts q.a q.len q.cap q.zs hql (by omega) hsm (by omega) ⟨by omega, by omega⟩ hR) rfl rfl ?_
      rintro _ _ ⟨U2, u2, W2, w2, rfl, rfl⟩
      refine o_move ?_
      refine o_extract rfl rfl ?_
      refine o_extract rfl rfl ?_
      refine o_extract rfl rfl ?_
      refine o_assign ?_
      refine o_assign ?_
      refine o_assign ?_
      refine g_end (G.imp (hQ_ .normal _) ?_)
      clear hQ_ Q_
      try refine g_then ?_
      refine G.bring [oE U u R.added, oE W w R.gone, StP s room R.next R.ts, RefP r room R.next R.ts, psl encE 12 U2 R.added, psl encE 12 W2 R.gone, psl encE 12 q.a q.zs, psl encE 12 S1 q.zs, psl encRG 1 A rs, prowsG encE 12 rs] ?_
      repeat (first | refine g_endt ?_ | refine g_end ?_ | refine g_then ?_ | refine g_in_normal ?_ | refine g_then_ret ?_ | refine g_in_ret ?_ | refine g_then_exit ?_ | refine g_in_exit rfl ?_ | refine g_in_exit_ne (by decide) ?_ | refine g_seq ?_ | refine g_region ?_ | refine g_block ?_ | refine g_ret ?_ | refine g_return_n ?_ | refine g_exit ?_ | refine g_skip ?_)
      refine g_hideR fun Q_ hQ_ => ?_
      refine o_move ?_
      refine o_move ?_
      refine o_neqT (t := false) rfl rfl (by simp) ?_
      refine o_move ?_
      first | (refine o_want rfl rfl rfl rfl rfl ?_; refine o_move ?_) | refine o_unwanted rfl rfl rfl rfl rfl ?_ | refine o_undef rfl rfl rfl ?_
      first | (refine o_want rfl rfl rfl rfl rfl ?_; refine o_move ?_) | refine o_unwanted rfl rfl rfl rfl rfl ?_ | refine o_undef rfl rfl rfl ?_
      refine o_want rfl rfl rfl rfl rfl (o_callx [psl encE 12 U2 R.added] [oE U u R.added] (ElemsP_spec U U2 R.added.length u u2 R.added rfl (by omega)) rfl rfl ?_)
      rintro _ _ ⟨rfl, rfl⟩
      first | (refine o_want rfl rfl rfl rfl rfl ?_; refine o_not rfl ?_) | refine o_unwanted rfl rfl rfl rfl rfl ?_ | refine o_undef rfl rfl rfl ?_
      first | refine o_pick_t rfl rfl ?_ | refine o_pick_f rfl rfl ?_
      refine o_move ?_
      first | (refine o_want rfl rfl rfl rfl rfl ?_; refine o_move ?_) | refine o_unwanted rfl rfl rfl rfl rfl ?_ | refine o_undef rfl rfl rfl ?_
      first | (refine o_want rfl rfl rfl rfl rfl ?_; refine o_move ?_) | refine o_unwanted rfl rfl rfl rfl rfl ?_ | refine o_undef rfl rfl rfl ?_
      refine o_want rfl rfl rfl rfl rfl (o_callx [psl encE 12 W2 R.gone] [oE W w R.gone] (ElemsP_spec W W2 R.gone.length w w2 R.gone rfl (by omega)) rfl rfl ?_)
      rintro _ _ ⟨rfl, rfl⟩
      first | (refine o_want rfl rfl rfl rfl rfl ?_; refine o_not rfl ?_) | refine o_unwanted rfl rfl rfl rfl rfl ?_ | refine o_undef rfl rfl rfl ?_
      first | refine o_pick_t rfl rfl ?_ | refine o_pick_f rfl rfl ?_
      refine o_move ?_
      first | (refine o_want rfl rfl rfl rfl rfl ?_; refine o_move ?_) | refine o_unwanted rfl rfl rfl rfl rfl ?_ | refine o_undef rfl rfl rfl ?_
      first | (refine o_want rfl rfl rfl rfl rfl ?_; refine o_move ?_) | refine o_unwanted rfl rfl rfl rfl rfl ?_ | refine o_undef rfl rfl rfl ?_
      first | (refine o_want rfl rfl rfl rfl rfl ?_; refine o_move ?_) | refine o_unwanted rfl rfl rfl rfl rfl ?_ | refine o_undef rfl rfl rfl ?_
      refine o_want rfl rfl rfl rfl rfl (o_indexR (ys := rs) (i := i) rfl rfl rfl (by omega) hl rfl ?_)
      refine o_want rfl rfl rfl rfl rfl (o_loadE0 (ys := rs) (v := .slice q.a q.len q.cap) rfl hq rfl ?_)
      refine o_want rfl rfl rfl rfl rfl (o_callp (Elems_spec S1 q.a q.len c1 q.cap q.zs hql (by omega)) rfl rfl ?_)
      rintro _ _ ⟨rfl, rfl⟩
      first | (refine o_want rfl rfl rfl rfl rfl ?_; refine o_not rfl ?_) | refine o_unwanted rfl rfl rfl rfl rfl ?_ | refine o_undef rfl rfl rfl ?_
      first | refine o_pick_t rfl rfl ?_ | refine o_pick_f rfl rfl ?_
      refine g_end (G.imp (hQ_ .normal _) ?_)
      clear hQ_ Q_
      try refine g_then ?_
      first | refine g_seq (g_cond_f rfl (by first | rfl | (simp; done) | (simp; omega) | (simp; assumption)) ?_) | refine g_cond_f rfl (by first | rfl | (simp; done) | (simp; omega) | (simp; assumption)) ?_
      repeat (first | refine g_endt ?_ | refine g_end ?_ | refine g_then ?_ | refine g_in_normal ?_ | refine g_then_ret ?_ | refine g_in_ret ?_ | refine g_then_exit ?_ | refine g_in_exit rfl ?_ | refine g_in_exit_ne (by decide) ?_ | refine g_seq ?_ | refine g_region ?_ | refine g_block ?_ | refine g_ret ?_ | refine g_return_n ?_ | refine g_exit ?_ | refine g_skip ?_)
      refine g_hideR fun Q_ hQ_ => ?_
      refine o_assign ?_
      refine g_end (G.imp (hQ_ .normal _) ?_)
      clear hQ_ Q_
      try refine g_then ?_
      repeat (first | refine g_endt ?_ | refine g_end ?_ | refine g_then ?_ | refine g_in_normal ?_ | refine g_then_ret ?_ | refine g_in_ret ?_ | refine g_then_exit ?_ | refine g_in_exit rfl ?_ | refine g_in_exit_ne (by decide) ?_ | refine g_seq ?_ | refine g_region ?_ | refine g_block ?_ | refine g_ret ?_ | refine g_return_n ?_ | refine g_exit ?_ | refine g_skip ?_)
      refine g_loop (σ := {t : Nat × List ElemD // t.1 ≤ R.added.length ∧ t.2.length = R.added.length}) (S := fun t => [(1, .slice A n c), (5, .pointer (some ⟨s, 0, none⟩)), (7, .pointer (some ⟨r, 0, none⟩)), (8, .int .i64 (i : Int)), (10, .slice U R.added.length u), (11, .slice W R.gone.length w), (16, .int .i64 (t.1.1 : Int))])
        (H := fun t => [oE U u t.1.2, oE W w R.gone, StP s room R.next R.ts, RefP r room R.next R.ts, psl encRG 1 A rs, prowsG encE 12 rs]) (μ := fun t => R.added.length - t.1.1) (s0 := ⟨(0, R.added), Nat.zero_le _, rfl⟩)
        (Sat.mem ⟨rfl, rfl, rfl, rfl, rfl, rfl, rfl, trivial⟩) (t := (inferInstance : Take _ [oE U u R.added, oE W w R.gone, StP s room R.next R.ts, RefP r room R.next R.ts, psl encRG 1 A rs, prowsG encE 12 rs] _)) ?_
      rintro ⟨⟨k, xs⟩, hk, hxl⟩ ρ3
      dsimp only at hk hxl ⊢
      repeat (first | refine g_endt ?_ | refine g_end ?_ | refine g_then ?_ | refine g_in_normal ?_ | refine g_then_ret ?_ | refine g_in_ret ?_ | refine g_then_exit ?_ | refine g_in_exit rfl ?_ | refine g_in_exit_ne (by decide) ?_ | refine g_seq ?_ | refine g_region ?_ | refine g_block ?_ | refine g_ret ?_ | refine g_return_n ?_ | refine g_exit ?_ | refine g_skip ?_)
      refine g_hideR fun Q_ hQ_ => ?_
      refine o_move ?_
      refine o_move ?_
      refine o_len rfl rfl ?_
      refine o_lss rfl rfl ?_
      refine g_end (G.imp (hQ_ .normal _) ?_)
      clear hQ_ Q_
      try refine g_then ?_
      by_cases hkl : k < R.added.length
      · first | refine g_seq (g_cond_t rfl (by first | rfl | (simp; done) | (simp; omega) | (simp; assumption)) ?_) | refine g_cond_t rfl (by first | rfl | (simp; done) | (simp; omega) | (simp; assumption)) ?_
        obtain ⟨x, hx⟩ : ∃ x, xs[k]? = some x := ⟨_, List.getElem?_eq_getElem (by omega)⟩
        repeat (first | refine g_endt ?_ | refine g_end ?_ | refine g_then ?_ | refine g_in_normal ?_ | refine g_then_ret ?_ | refine g_in_ret ?_ | refine g_then_exit ?_ | refine g_in_exit rfl ?_ | refine g_in_exit_ne (by decide) ?_ | refine g_seq ?_ | refine g_region ?_ | refine g_block ?_ | refine g_ret ?_ | refine g_return_n ?_ | refine g_exit ?_ | refine g_skip ?_)
        repeat (first | refine g_endt ?_ | refine g_end ?_ | refine g_then ?_ | refine g_in_normal ?_ | refine g_then_ret ?_ | refine g_in_ret ?_ | refine g_then_exit ?_ | refine g_in_exit rfl ?_ | refine g_in_exit_ne (by decide) ?_ | refine g_seq ?_ | refine g_region ?_ | refine g_block ?_ | refine g_ret ?_ | refine g_return_n ?_ | refine g_exit ?_ | refine g_skip ?_)
        refine g_hideR fun Q_ hQ_ => ?_
        refine o_move ?_
        refine o_move ?_
        refine o_indexR (ys := xs) (i := k) rfl rfl rfl (by omega) hxl rfl ?_
        refine o_fieldR (ys := xs) rfl (by omega) ?_
        refine o_storeF (e := 25) (c := u) (enc := encE) (v := .int .i64 (-5)) (xs := xs) (off := 11) (i := k) (z0 := x) (z := { x with tag := -5 }) rfl rfl hx rfl rfl (Nat.le_of_ble_eq_true rfl) ?_
        refine g_end (G.imp (hQ_ .normal _) ?_)
        clear hQ_ Q_
        try refine g_then ?_
        repeat (first | refine g_endt ?_ | refine g_end ?_ | refine g_then ?_ | refine g_in_normal ?_ | refine g_then_ret ?_ | refine g_in_ret ?_ | refine g_then_exit ?_ | refine g_in_exit rfl ?_ | refine g_in_exit_ne (by decide) ?_ | refine g_seq ?_ | refine g_region ?_ | refine g_block ?_ | refine g_ret ?_ | refine g_return_n ?_ | refine g_exit ?_ | refine g_skip ?_)
        repeat (first | refine g_endt ?_ | refine g_end ?_ | refine g_then ?_ | refine g_in_normal ?_ | refine g_then_ret ?_ | refine g_in_ret ?_ | refine g_then_exit ?_ | refine g_in_exit rfl ?_ | refine g_in_exit_ne (by decide) ?_ | refine g_seq ?_ | refine g_region ?_ | refine g_block ?_ | refine g_ret ?_ | refine g_return_n ?_ | refine g_exit ?_ | refine g_skip ?_)
        refine g_hideR fun Q_ hQ_ => ?_
        refine o_move ?_
        refine o_add (c := ((k + 1 : Nat) : Int)) rfl rfl (by omega) (by omega) (by omega) ?_
        refine o_assign ?_
        refine g_end (G.imp (hQ_ .normal _) ?_)
        clear hQ_ Q_
        try refine g_then ?_
        repeat (first | refine g_endt ?_ | refine g_end ?_ | refine g_then ?_ | refine g_in_normal ?_ | refine g_then_ret ?_ | refine g_in_ret ?_ | refine g_then_exit ?_ | refine g_in_exit rfl ?_ | refine g_in_exit_ne (by decide) ?_ | refine g_seq ?_ | refine g_region ?_ | refine g_block ?_ | refine g_ret ?_ | refine g_return_n ?_ | refine g_exit ?_ | refine g_skip ?_)
        exact g_meets ⟨(k + 1, xs.set k { x with tag := -5 }), hkl, by rw [List.length_set]; exact hxl⟩ (by show R.added.length - (k + 1) < R.added.length - k; omega) (Sat.mem ⟨rfl, rfl, rfl, rfl, rfl, rfl, rfl, trivial⟩)
      first | refine g_seq (g_cond_f rfl (by simp only [decide_eq_false_iff_not]; omega) ?_) | refine g_cond_f rfl (by simp only [decide_eq_false_iff_not]; omega) ?_
      repeat (first | refine g_endt ?_ | refine g_end ?_ | refine g_then ?_ | refine g_in_normal ?_ | refine g_then_ret ?_ | refine g_in_ret ?_ | refine g_then_exit ?_ | refine g_in_exit rfl ?_ | refine g_in_exit_ne (by decide) ?_ | refine g_seq ?_ | refine g_region ?_ | refine g_block ?_ | refine g_ret ?_ | refine g_return_n ?_ | refine g_exit ?_ | refine g_skip ?_)
      refine g_hideR fun Q_ hQ_ => ?_
      refine o_assign ?_
      refine g_end (G.imp (hQ_ .normal _) ?_)
      clear hQ_ Q_
      try refine g_then ?_
      repeat (first | refine g_endt ?_ | refine g_end ?_ | refine g_then ?_ | refine g_in_normal ?_ | refine g_then_ret ?_ | refine g_in_ret ?_ | refine g_then_exit ?_ | refine g_in_exit rfl ?_ | refine g_in_exit_ne (by decide) ?_ | refine g_seq ?_ | refine g_region ?_ | refine g_block ?_ | refine g_ret ?_ | refine g_return_n ?_ | refine g_exit ?_ | refine g_skip ?_)
      refine g_loop (σ := {t : Nat × List ElemD // t.1 ≤ R.gone.length ∧ t.2.length = R.gone.length}) (S := fun t => [(1, .slice A n c), (5, .pointer (some ⟨s, 0, none⟩)), (7, .pointer (some ⟨r, 0, none⟩)), (8, .int .i64 (i : Int)), (11, .slice W R.gone.length w), (17, .int .i64 (t.1.1 : Int))])
        (H := fun t => [oE W w t.1.2, StP s room R.next R.ts, RefP r room R.next R.ts, psl encRG 1 A rs, prowsG encE 12 rs]) (μ := fun t => R.gone.length - t.1.1) (s0 := ⟨(0, R.gone), Nat.zero_le _, rfl⟩)
        (Sat.mem ⟨rfl, rfl, rfl, rfl, rfl, rfl, trivial⟩) (t := (inferInstance : Take _ [oE W w R.gone, StP s room R.next R.ts, RefP r room R.next R.ts, psl encRG 1 A rs, prowsG encE 12 rs] _)) ?_
      rintro ⟨⟨k2, ys⟩, hk2, hyl⟩ ρ4
      dsimp only at hk2 hyl ⊢
      repeat (first | refine g_endt ?_ | refine g_end ?_ | refine g_then ?_ | refine g_in_normal ?_ | refine g_then_ret ?_ | refine g_in_ret ?_ | refine g_then_exit ?_ | refine g_in_exit rfl ?_ | refine g_in_exit_ne (by decide) ?_ | refine g_seq ?_ | refine g_region ?_ | refine g_block ?_ | refine g_ret ?_ | refine g_return_n ?_ | refine g_exit ?_ | refine g_skip ?_)
      refine g_hideR fun Q_ hQ_ => ?_
      refine o_move ?_
      refine o_move ?_
      refine o_len rfl rfl ?_
      refine o_lss rfl rfl ?_
      refine g_end (G.imp (hQ_ .normal _) ?_)
      clear hQ_ Q_
      try refine g_then ?_
      by_cases hkl2 : k2 < R.gone.length
      · first | refine g_seq (g_cond_t rfl (by first | rfl | (simp; done) | (simp; omega) | (simp; assumption)) ?_) | refine g_cond_t rfl (by first | rfl | (simp; done) | (simp; omega) | (simp; assumption)) ?_
        obtain ⟨x, hx⟩ : ∃ x, ys[k2]? = some x := ⟨_, List.getElem?_eq_getElem (by omega)⟩
        repeat (first | refine g_endt ?_ | refine g_end ?_ | refine g_then ?_ | refine g_in_normal ?_ | refine g_then_ret ?_ | refine g_in_ret ?_ | refine g_then_exit ?_ | refine g_in_exit rfl ?_ | refine g_in_exit_ne (by decide) ?_ | refine g_seq ?_ | refine g_region ?_ | refine g_block ?_ | refine g_ret ?_ | refine g_return_n ?_ | refine g_exit ?_ | refine g_skip ?_)
        repeat (first | refine g_endt ?_ | refine g_end ?_ | refine g_then ?_ | refine g_in_normal ?_ | refine g_then_ret ?_ | refine g_in_ret ?_ | refine g_then_exit ?_ | refine g_in_exit rfl ?_ | refine g_in_exit_ne (by decide) ?_ | refine g_seq ?_ | refine g_region ?_ | refine g_block ?_ | refine g_ret ?_ | refine g_return_n ?_ | refine g_exit ?_ | refine g_skip ?_)
        refine g_hideR fun Q_ hQ_ => ?_
        refine o_move ?_
        refine o_move ?_
        refine o_indexR (ys := ys) (i := k2) rfl rfl rfl (by omega) hyl rfl ?_
        refine o_fieldR (ys := ys) rfl (by omega) ?_
        refine o_storeF (e := 25) (c := w) (enc := encE) (v := .int .i64 (-5)) (xs := ys) (off := 11) (i := k2) (z0 := x) (z := { x with tag := -5 }) rfl rfl hx rfl rfl (Nat.le_of_ble_eq_true rfl) ?_
        refine g_end (G.imp (hQ_ .normal _) ?_)
        clear hQ_ Q_
        try refine g_then ?_
        repeat (first | refine g_endt ?_ | refine g_end ?_ | refine g_then ?_ | refine g_in_normal ?_ | refine g_then_ret ?_ | refine g_in_ret ?_ | refine g_then_exit ?_ | refine g_in_exit rfl ?_ | refine g_in_exit_ne (by decide) ?_ | refine g_seq ?_ | refine g_region ?_ | refine g_block ?_ | refine g_ret ?_ | refine g_return_n ?_ | refine g_exit ?_ | refine g_skip ?_)
        repeat (first | refine g_endt ?_ | refine g_end ?_ | refine g_then ?_ | refine g_in_normal ?_ | refine g_then_ret ?_ | refine g_in_ret ?_ | refine g_then_exit ?_ | refine g_in_exit rfl ?_ | refine g_in_exit_ne (by decide) ?_ | refine g_seq ?_ | refine g_region ?_ | refine g_block ?_ | refine g_ret ?_ | refine g_return_n ?_ | refine g_exit ?_ | refine g_skip ?_)
        refine g_hideR fun Q_ hQ_ => ?_
        refine o_move ?_
        refine o_add (c := ((k2 + 1 : Nat) : Int)) rfl rfl (by omega) (by omega) (by omega) ?_
        refine o_assign ?_
        refine g_end (G.imp (hQ_ .normal _) ?_)
        clear hQ_ Q_
        try refine g_then ?_
        repeat (first | refine g_endt ?_ | refine g_end ?_ | refine g_then ?_ | refine g_in_normal ?_ | refine g_then_ret ?_ | refine g_in_ret ?_ | refine g_then_exit ?_ | refine g_in_exit rfl ?_ | refine g_in_exit_ne (by decide) ?_ | refine g_seq ?_ | refine g_region ?_ | refine g_block ?_ | refine g_ret ?_ | refine g_return_n ?_ | refine g_exit ?_ | refine g_skip ?_)
        exact g_meets ⟨(k2 + 1, ys.set k2 { x with tag := -5 }), hkl2, by rw [List.length_set]; exact hyl⟩ (by show R.gone.length - (k2 + 1) < R.gone.length - k2; omega) (Sat.mem ⟨rfl, rfl, rfl, rfl, rfl, rfl, trivial⟩)
      first | refine g_seq (g_cond_f rfl (by simp only [decide_eq_false_iff_not]; omega) ?_) | refine g_cond_f rfl (by simp only [decide_eq_false_iff_not]; omega) ?_
      refine openRf r room R.next R.ts fun Lr cr => ?_
      repeat (first | refine g_endt ?_ | refine g_end ?_ | refine g_then ?_ | refine g_in_normal ?_ | refine g_then_ret ?_ | refine g_in_ret ?_ | refine g_then_exit ?_ | refine g_in_exit rfl ?_ | refine g_in_exit_ne (by decide) ?_ | refine g_seq ?_ | refine g_region ?_ | refine g_block ?_ | refine g_ret ?_ | refine g_return_n ?_ | refine g_exit ?_ | refine g_skip ?_)
      refine g_hide fun Q_ hQ_ => ?_
      refine g_draw [1,2,7,11,21] [0,3,4,5,6,1,2,7,8,9,10,12,13,14,15,16,11,17,18,19,20,22,23,24,25,21,26,27] [rfC r room R.next Lr R.ts.length cr, psl encE 12 Lr R.ts] mixed (by kernel_rfl) ?_
      refine ob_q rfl rfl ⟨_, fun X Q h => o_move (g_end (h _ _ ⟨rfl, rfl⟩)), ?_⟩
      refine ob_q rfl rfl ⟨_, fun X Q h => o_move (g_end (h _ _ ⟨rfl, rfl⟩)), ?_⟩
      refine ob_q rfl rfl ⟨_, fun X Q h => o_nil rfl (g_end (h _ _ ⟨rfl, rfl⟩)), ?_⟩
      first | refine ob_q rfl rfl ⟨_, fun X Q h => o_field rfl (g_end (h _ _ ⟨rfl, rfl⟩)), ?_⟩ | refine ob_q rfl rfl ⟨_, fun X Q h => o_fieldR rfl (by omega) (g_end (h _ _ ⟨rfl, rfl⟩)), ?_⟩
      refine ob_q rfl rfl ⟨_, fun X Q h => o_load1 (v := .slice Lr R.ts.length cr) rfl rfl (g_end (h _ _ ⟨rfl, rfl⟩)), ?_⟩
      refine ob_l rfl rfl fun Qz hz => o_call (AllSt_spec s) rfl rfl ?_
      rintro _ _ ⟨b, rfl, rfl⟩
      refine g_end (hz _ _ ⟨_, ob_fin, ?_⟩)
      clear hz Qz
      refine ob_l rfl rfl fun Qz hz => o_call (ListE_spec 50 [.pointer (some ⟨b, 0, none⟩)] R.ts rfl (by omega) [StP s room R.next R.ts, pSt b s] (fun K => All1St_iter s b room R.next R.ts (by omega) _)) rfl rfl ?_
      rintro _ _ ⟨S5, c5, rfl, rfl⟩
      (refine G.bring [oE S5 c5 R.ts] ?_; refine G.frz ?_)
      refine g_end (hz _ _ ⟨_, ob_fin, ?_⟩)
      clear hz Qz
      refine ob_l rfl rfl fun Qz hz => o_callp (Elems_spec S5 Lr R.ts.length c5 cr R.ts rfl (by omega)) rfl rfl ?_
      rintro _ _ ⟨rfl, rfl⟩
      refine g_end (hz _ _ ⟨_, ob_fin, ?_⟩)
      clear hz Qz
      refine ob_q rfl rfl ⟨_, fun X Q h => o_not rfl (g_end (h _ _ ⟨rfl, rfl⟩)), ?_⟩
      refine ob_q rfl rfl ⟨_, fun X Q h => o_move (g_end (h _ _ ⟨rfl, rfl⟩)), ?_⟩
      first | refine ob_q rfl rfl ⟨_, fun X Q h => o_want rfl rfl rfl rfl rfl <| o_move (g_end (h _ _ ⟨rfl, rfl⟩)), ?_⟩ | refine ob_q rfl rfl ⟨_, fun X Q h => o_unwanted rfl rfl rfl rfl rfl (g_end (h _ _ ⟨rfl, rfl⟩)), ?_⟩ | refine ob_q rfl rfl ⟨_, fun X Q h => o_undef rfl rfl rfl (g_end (h _ _ ⟨rfl, rfl⟩)), ?_⟩
      first | refine ob_q rfl rfl ⟨_, fun X Q h => o_want rfl rfl rfl rfl rfl <| o_move (g_end (h _ _ ⟨rfl, rfl⟩)), ?_⟩ | refine ob_q rfl rfl ⟨_, fun X Q h => o_unwanted rfl rfl rfl rfl rfl (g_end (h _ _ ⟨rfl, rfl⟩)), ?_⟩ | refine ob_q rfl rfl ⟨_, fun X Q h => o_undef rfl rfl rfl (g_end (h _ _ ⟨rfl, rfl⟩)), ?_⟩
      first | refine ob_q rfl rfl ⟨_, fun X Q h => o_want rfl rfl rfl rfl rfl <| o_nil rfl (g_end (h _ _ ⟨rfl, rfl⟩)), ?_⟩ | refine ob_q rfl rfl ⟨_, fun X Q h => o_unwanted rfl rfl rfl rfl rfl (g_end (h _ _ ⟨rfl, rfl⟩)), ?_⟩ | refine ob_q rfl rfl ⟨_, fun X Q h => o_undef rfl rfl rfl (g_end (h _ _ ⟨rfl, rfl⟩)), ?_⟩
      first | refine ob_q rfl rfl ⟨_, fun X Q h => o_want rfl rfl rfl rfl rfl <| o_field rfl (g_end (h _ _ ⟨rfl, rfl⟩)), ?_⟩ | refine ob_q rfl rfl ⟨_, fun X Q h => o_want rfl rfl rfl rfl rfl <| o_fieldR rfl (by omega) (g_end (h _ _ ⟨rfl, rfl⟩)), ?_⟩ | refine ob_q rfl rfl ⟨_, fun X Q h => o_unwanted rfl rfl rfl rfl rfl (g_end (h _ _ ⟨rfl, rfl⟩)), ?_⟩ | refine ob_q rfl rfl ⟨_, fun X Q h => o_undef rfl rfl rfl (g_end (h _ _ ⟨rfl, rfl⟩)), ?_⟩
      refine ob_q rfl rfl ⟨_, fun X Q h => o_want rfl rfl rfl rfl rfl <| o_load1 (v := .slice Lr R.ts.length cr) rfl rfl (g_end (h _ _ ⟨rfl, rfl⟩)), ?_⟩
      first | refine ob_q rfl rfl ⟨_, fun X Q h => o_want rfl rfl rfl rfl rfl <| o_len rfl rfl (g_end (h _ _ ⟨rfl, rfl⟩)), ?_⟩ | refine ob_q rfl rfl ⟨_, fun X Q h => o_unwanted rfl rfl rfl rfl rfl (g_end (h _ _ ⟨rfl, rfl⟩)), ?_⟩ | refine ob_q rfl rfl ⟨_, fun X Q h => o_undef rfl rfl rfl (g_end (h _ _ ⟨rfl, rfl⟩)), ?_⟩
      refine ob_l rfl rfl fun Qz hz => o_want rfl rfl rfl rfl rfl <| o_call (LenSt_spec s room R.next R.ts) rfl rfl ?_
      rintro _ _ ⟨rfl, rfl⟩
      refine g_end (hz _ _ ⟨_, ob_fin, ?_⟩)
      clear hz Qz
      refine ob_q rfl rfl ⟨_, fun X Q h => o_want rfl rfl rfl rfl rfl <| o_neqT (t := false) rfl rfl (by simp) (g_end (h _ _ ⟨rfl, rfl⟩)), ?_⟩
      first | refine ob_q rfl rfl ⟨_, fun X Q h => o_pick_t rfl rfl (g_end (h _ _ ⟨rfl, rfl⟩)), ?_⟩ | refine ob_q rfl rfl ⟨_, fun X Q h => o_pick_f rfl rfl (g_end (h _ _ ⟨rfl, rfl⟩)), ?_⟩
      refine ob_q rfl rfl ⟨_, fun X Q h => o_move (g_end (h _ _ ⟨rfl, rfl⟩)), ?_⟩
      first | refine ob_q rfl rfl ⟨_, fun X Q h => o_want rfl rfl rfl rfl rfl <| o_move (g_end (h _ _ ⟨rfl, rfl⟩)), ?_⟩ | refine ob_q rfl rfl ⟨_, fun X Q h => o_unwanted rfl rfl rfl rfl rfl (g_end (h _ _ ⟨rfl, rfl⟩)), ?_⟩ | refine ob_q rfl rfl ⟨_, fun X Q h => o_undef rfl rfl rfl (g_end (h _ _ ⟨rfl, rfl⟩)), ?_⟩
      first | refine ob_q rfl rfl ⟨_, fun X Q h => o_want rfl rfl rfl rfl rfl <| o_move (g_end (h _ _ ⟨rfl, rfl⟩)), ?_⟩ | refine ob_q rfl rfl ⟨_, fun X Q h => o_unwanted rfl rfl rfl rfl rfl (g_end (h _ _ ⟨rfl, rfl⟩)), ?_⟩ | refine ob_q rfl rfl ⟨_, fun X Q h => o_undef rfl rfl rfl (g_end (h _ _ ⟨rfl, rfl⟩)), ?_⟩
      first | refine ob_q rfl rfl ⟨_, fun X Q h => o_want rfl rfl rfl rfl rfl <| o_nil rfl (g_end (h _ _ ⟨rfl, rfl⟩)), ?_⟩ | refine ob_q rfl rfl ⟨_, fun X Q h => o_unwanted rfl rfl rfl rfl rfl (g_end (h _ _ ⟨rfl, rfl⟩)), ?_⟩ | refine ob_q rfl rfl ⟨_, fun X Q h => o_undef rfl rfl rfl (g_end (h _ _ ⟨rfl, rfl⟩)), ?_⟩
      first | refine ob_q rfl rfl ⟨_, fun X Q h => o_want rfl rfl rfl rfl rfl <| o_field rfl (g_end (h _ _ ⟨rfl, rfl⟩)), ?_⟩ | refine ob_q rfl rfl ⟨_, fun X Q h => o_want rfl rfl rfl rfl rfl <| o_fieldR rfl (by omega) (g_end (h _ _ ⟨rfl, rfl⟩)), ?_⟩ | refine ob_q rfl rfl ⟨_, fun X Q h => o_unwanted rfl rfl rfl rfl rfl (g_end (h _ _ ⟨rfl, rfl⟩)), ?_⟩ | refine ob_q rfl rfl ⟨_, fun X Q h => o_undef rfl rfl rfl (g_end (h _ _ ⟨rfl, rfl⟩)), ?_⟩
      refine ob_q rfl rfl ⟨_, fun X Q h => o_want rfl rfl rfl rfl rfl <| o_load1 (v := .int .i64 R.next) rfl rfl (g_end (h _ _ ⟨rfl, rfl⟩)), ?_⟩
      refine ob_l rfl rfl fun Qz hz => o_want rfl rfl rfl rfl rfl <| o_call (NextSt_spec s room R.next R.ts) rfl rfl ?_
      rintro _ _ ⟨rfl, rfl⟩
      refine g_end (hz _ _ ⟨_, ob_fin, ?_⟩)
      clear hz Qz
      refine ob_q rfl rfl ⟨_, fun X Q h => o_want rfl rfl rfl rfl rfl <| o_neqT (t := false) rfl rfl (by simp) (g_end (h _ _ ⟨rfl, rfl⟩)), ?_⟩
      first | refine ob_q rfl rfl ⟨_, fun X Q h => o_pick_t rfl rfl (g_end (h _ _ ⟨rfl, rfl⟩)), ?_⟩ | refine ob_q rfl rfl ⟨_, fun X Q h => o_pick_f rfl rfl (g_end (h _ _ ⟨rfl, rfl⟩)), ?_⟩
      refine ob_nil ?_
      refine G.imp (hQ_ .normal _) ?_
      clear hQ_ Q_
      try refine g_then ?_
      refine shutRf r room R.next R.ts Lr R.ts.length cr rfl ?_
      first | refine g_seq (g_cond_f rfl (by first | rfl | (simp; done) | (simp; omega) | (simp; assumption)) ?_) | refine g_cond_f rfl (by first | rfl | (simp; done) | (simp; omega) | (simp; assumption)) ?_
      repeat (first | refine g_endt ?_ | refine g_end ?_ | refine g_then ?_ | refine g_in_normal ?_ | refine g_then_ret ?_ | refine g_in_ret ?_ | refine g_then_exit ?_ | refine g_in_exit rfl ?_ | refine g_in_exit_ne (by decide) ?_ | refine g_seq ?_ | refine g_region ?_ | refine g_block ?_ | refine g_ret ?_ | refine g_return_n ?_ | refine g_exit ?_ | refine g_skip ?_)
      repeat (first | refine g_endt ?_ | refine g_end ?_ | refine g_then ?_ | refine g_in_normal ?_ | refine g_then_ret ?_ | refine g_in_ret ?_ | refine g_then_exit ?_ | refine g_in_exit rfl ?_ | refine g_in_exit_ne (by decide) ?_ | refine g_seq ?_ | refine g_region ?_ | refine g_block ?_ | refine g_ret ?_ | refine g_return_n ?_ | refine g_exit ?_ | refine g_skip ?_)
      refine g_hideR fun Q_ hQ_ => ?_
      refine o_move ?_
      refine o_add (c := ((i + 1 : Nat) : Int)) rfl rfl (by omega) (by omega) (by omega) ?_
      refine o_assign ?_
      refine g_end (G.imp (hQ_ .normal _) ?_)
      clear hQ_ Q_
      try refine g_then ?_
      repeat (first | refine g_endt ?_ | refine g_end ?_ | refine g_then ?_ | refine g_in_normal ?_ | refine g_then_ret ?_ | refine g_in_ret ?_ | refine g_then_exit ?_ | refine g_in_exit rfl ?_ | refine g_in_exit_ne (by decide) ?_ | refine g_seq ?_ | refine g_region ?_ | refine g_block ?_ | refine g_ret ?_ | refine g_return_n ?_ | refine g_exit ?_ | refine g_skip ?_)
      exact g_meets ⟨(i + 1, R.next, R.ts), hin, hi12', (by show 1 ≤ R.next; omega), (by show R.next ≤ 1 + 40 * ((i + 1 : Nat) : Int); omega), (by show R.ts.length ≤ 40 * (i + 1); omega)⟩ (by show n - (i + 1) < n - i; omega) (Sat.mem ⟨rfl, rfl, rfl, rfl, trivial⟩)
end Go.Proofs.Ytdpbjoldgiikkaa
/- A region that draws its order, with pure operations. Plain library, no program in sight. (Sl5's rule, taken further.) -/
namespace Go.Sl.Pu
open Go Go.Proofs Go.Sl

section
variable {w0 : World} {A : SProp} {ro : Option Nat} {P : Program} {n : Nat} {ds : List Nat}
/-- What is owed: each operation's step, the loud ones' with what they change. -/
def okSync (b : List Nat) (m i : Nat) (π pu : List Nat) : Bool := (List.range m).all fun j => (π.contains j || (j == i || isAnc b i j)) || pu.contains j
def ObR (w0 : World) (A : SProp) (ro : Option Nat) (P : Program) (l : List Oper) (n : Nat) (ds : List Nat) (lou pu : List Nat) (K : (Nat → Value) → List SProp → Prop) : List Nat → List SProp → (Nat → Value) → List SProp → Prop
  | [], Lq, ρ, Lp => K ρ (Lq ++ Lp)
  | i :: π, Lq, ρ, Lp => match l[i]? with
    | none => False
    | some o => if lou.contains i then
        OStep w0 A ro P l.toArray n ds ρ (Lq ++ Lp) o (fun v M => ∃ Lq' Lp', Ent (sl M) (sl (Lq' ++ Lp')) ∧ (Lq' = Lq ∨ okSync (masks l []) l.length i π pu = true) ∧ ObR w0 A ro P l n ds lou pu K π Lq' (updo ρ o.dst v) Lp')
      else ∃ v, ((∀ X, OStep w0 A ro P l.toArray n ds ρ (Lq ++ X) o (fun u M => u = v ∧ M = Lq ++ X)) ∧ (pu.contains i = true → ∀ X, OStep w0 A ro P l.toArray n ds ρ X o (fun u M => u = v ∧ M = X))) ∧ ObR w0 A ro P l n ds lou pu K π Lq (updo ρ o.dst v) Lp
abbrev Ob (w0 : World) (A : SProp) (ro : Option Nat) (P : Program) (l : List Oper) (n : Nat) (ds : List Nat) (lou pu : List Nat) (Lq : List SProp) (K : (Nat → Value) → List SProp → Prop) (π : List Nat) (ρ : Nat → Value) (Lp : List SProp) : Prop :=
  ObR w0 A ro P l n ds lou pu K π Lq ρ Lp

structure Inv (w0 : World) (A : SProp) (ro : Option Nat) (P : Program) (l : List Oper) (n : Nat) (ds : List Nat) (b pu : List Nat) (Lq : List SProp) (ρ0 : Nat → Value) (listed : Array Bool) (π : List Nat) (pend : List Pd) (ρf : Nat → Value) : Prop where
  sz : listed.size = l.length
  inπ : ∀ j ∈ π, j < l.length ∧ listed.getD j false = false ∧ ∀ p ∈ pend, p.1 ≠ j
  inP : ∀ p ∈ pend, p.1 < l.length ∧ listed.getD p.1 false = false
  all : ∀ j, j < l.length → listed.getD j false = true ∨ (∃ p ∈ pend, p.1 = j) ∨ j ∈ π
  nπ : π.Nodup
  nP : (pend.map (·.1)).Nodup
  closed : ∀ i j, listed.getD i false = true → isAnc b i j = true → j < l.length → listed.getD j false = true
  base : ∀ t, (∀ j, j < l.length → j ∉ π → dstAt l j ≠ some t) → ρf t = ρ0 t
  pa : ∀ p ∈ pend, ∀ j ∈ π, isAnc b p.1 j = false
  pq : ∀ p ∈ pend, ∀ o, l[p.1]? = some o → ((∀ X, OStep w0 A ro P l.toArray n ds p.2.1 (Lq ++ X) o (fun u M => u = p.2.2 ∧ M = Lq ++ X)) ∧ (pu.contains p.1 = true → ∀ X, OStep w0 A ro P l.toArray n ds p.2.1 X o (fun u M => u = p.2.2 ∧ M = X))) ∧ (∀ d, o.dst = some d → ρf d = p.2.2) ∧
    ∀ t ∈ o.looksAt l.toArray, ((∃ j, j < l.length ∧ isAnc b p.1 j = true ∧ dstAt l j = some t) → p.2.1 t = ρf t) ∧ ((∀ j, j < l.length → isAnc b p.1 j = true → dstAt l j ≠ some t) → p.2.1 t = ρ0 t)

section sound
variable {l : List Oper} {b lou pu : List Nat} {Lq : List SProp} {ρ0 : Nat → Value} {K : (Nat → Value) → List SProp → Prop}
theorem dstAt_of {i : Nat} {o : Oper} (ho : l[i]? = some o) : dstAt l i = o.dst := by simp [dstAt, ho]
theorem updo_ne {ρ : Nat → Value} {d : Option Tmp} {t : Nat} {v : Value} (h : d ≠ some t) : updo ρ d v t = ρ t := by
  cases d with
  | none => rfl
  | some d => exact upd_ne _ _ (fun e => h (by rw [e]))

/-- A quiet operation is walked. -/
theorem Inv.pop (rf : RegFacts l n b) {listed : Array Bool} {k : Nat} {π : List Nat} {pend : List Pd} {ρf : Nat → Value} {Lp : List SProp} (h : Inv w0 A ro P l n ds b pu Lq ρ0 listed (k :: π) pend ρf) (ho : okOrder lou b (k :: π) = true)
    (hq : lou.contains k = false) (hob : Ob w0 A ro P l n ds lou pu Lq K (k :: π) ρf Lp) :
    ∃ v, ∃ o, l[k]? = some o ∧ Inv w0 A ro P l n ds b pu Lq ρ0 listed π ((k, ρf, v) :: pend) (updo ρf o.dst v) ∧ Ob w0 A ro P l n ds lou pu Lq K π (updo ρf o.dst v) Lp ∧ cur l ρ0 ((k, ρf, v) :: pend) (updo ρf o.dst v) = cur l ρ0 pend ρf := by
  simp only [Ob, ObR] at hob
  cases hk : l[k]? with
  | none => rw [hk] at hob; exact hob.elim
  | some o =>
    rw [hk] at hob
    simp only [hq] at hob
    obtain ⟨v, hst, hrest⟩ := hob
    simp only [okOrder, Bool.and_eq_true, List.all_eq_true] at ho
    have hkl : k < l.length := (List.getElem?_eq_some_iff.1 hk).1
    have hkd := dstAt_of hk
    obtain ⟨hkn, hπn⟩ := List.nodup_cons.1 h.nπ
    have hbase : ∀ t, dstAt l k = some t → ρf t = ρ0 t := fun t ht => h.base t fun j hj hjn e => hjn ((rf.dne j k t hj hkl e ht).symm ▸ List.mem_cons_self)
    refine ⟨v, o, rfl, ?_, hrest, ?_⟩
    · refine ⟨h.sz, ?_, ?_, ?_, hπn, ?_, h.closed, ?_, ?_, ?_⟩
      · intro j hj
        obtain ⟨h1, h2, h3⟩ := h.inπ j (List.mem_cons_of_mem _ hj)
        refine ⟨h1, h2, fun p hp => ?_⟩
        rcases List.mem_cons.1 hp with rfl | hp
        · rintro rfl; exact hkn hj
        · exact h3 p hp
      · intro p hp
        rcases List.mem_cons.1 hp with rfl | hp
        · exact ⟨hkl, (h.inπ k List.mem_cons_self).2.1⟩
        · exact h.inP p hp
      · intro j hj
        rcases h.all j hj with h1 | ⟨p, hp, rfl⟩ | h1
        · exact .inl h1
        · exact .inr (.inl ⟨p, List.mem_cons_of_mem _ hp, rfl⟩)
        · rcases List.mem_cons.1 h1 with rfl | h1
          · exact .inr (.inl ⟨_, List.mem_cons_self, rfl⟩)
          · exact .inr (.inr h1)
      · rw [List.map_cons, List.nodup_cons]
        refine ⟨fun hm => ?_, h.nP⟩
        obtain ⟨p, hp, e⟩ := List.mem_map.1 hm
        exact (h.inπ k List.mem_cons_self).2.2 p hp e
      · intro t ht
        rw [updo_ne (by rw [← hkd]; exact ht k hkl hkn)]
        exact h.base t fun j hj hjn => ht j hj fun hjm => hjn (List.mem_cons_of_mem _ hjm)
      · intro p hp j hj
        rcases List.mem_cons.1 hp with rfl | hp
        · have := ho.1.2 j hj
          simpa using this
        · exact h.pa p hp j (List.mem_cons_of_mem _ hj)
      · intro p hp o' ho'
        rcases List.mem_cons.1 hp with rfl | hp
        · rw [hk] at ho'
          obtain rfl := Option.some.inj ho'
          refine ⟨hst, fun d hd => by rw [hd]; simp [updo, upd_same], fun t ht => ⟨?_, ?_⟩⟩
          · rintro ⟨j, hj, ha, hd⟩
            refine (updo_ne fun e => ?_).symm
            have : j = k := rf.dne j k t hj hkl hd (by rw [hkd]; exact e)
            subst this
            rw [rf.irr j hj] at ha; cases ha
          · intro hno
            refine h.base t fun j hj hjn e => ?_
            rcases rf.look k o hk t ht j hj e with h1 | h1 | h1
            · exact hno j hj h1 e
            · exact hjn (by rw [← h1]; exact List.mem_cons_self)
            · rcases h.all j hj with h2 | ⟨p, hp, rfl⟩ | h2
              · have := h.closed j k h2 h1 hkl
                rw [(h.inπ k List.mem_cons_self).2.1] at this; cases this
              · rw [h.pa p hp k List.mem_cons_self] at h1; cases h1
              · exact hjn h2
        · obtain ⟨h1, h2, h3⟩ := h.pq p hp o' ho'
          have hne : p.1 ≠ k := (h.inπ k List.mem_cons_self).2.2 p hp
          have hpl := (h.inP p hp).1
          have hpak := h.pa p hp k List.mem_cons_self
          refine ⟨h1, fun d hd => ?_, fun t ht => ⟨?_, (h3 t ht).2⟩⟩
          · rw [updo_ne]
            · exact h2 d hd
            · intro e
              exact hne (rf.dne p.1 k d hpl hkl (by rw [dstAt_of ho']; exact hd) (by rw [hkd]; exact e))
          · rintro ⟨j, hj, ha, hd⟩
            rw [(h3 t ht).1 ⟨j, hj, ha, hd⟩]
            refine (updo_ne fun e => ?_).symm
            have : j = k := rf.dne j k t hj hkl hd (by rw [hkd]; exact e)
            subst this
            rw [hpak] at ha; cases ha
    · funext t
      unfold cur
      simp only [List.any_cons]
      by_cases e : dstAt l k = some t
      · have hno : pend.any (fun p => dstAt l p.1 == some t) = false := by
          rw [List.any_eq_false]
          intro p hp
          simp only [beq_iff_eq]
          intro e2
          exact (h.inπ k List.mem_cons_self).2.2 p hp (rf.dne p.1 k t (h.inP p hp).1 hkl e2 e)
        simp [e, hno, hbase t e]
      · have e1 : (dstAt l k == some t) = false := by simpa using e
        rw [e1, Bool.false_or, updo_ne (by rw [← hkd]; exact e)]

theorem okOrder_tail {k : Nat} {π : List Nat} (h : okOrder lou b (k :: π) = true) : okOrder lou b π = true := by
  simp only [okOrder, Bool.and_eq_true] at h
  exact h.2
/-- Quiet operations are walked till i is reached. -/
theorem Inv.pops (rf : RegFacts l n b) {listed : Array Bool} {i : Nat} {πb : List Nat} : ∀ (πa : List Nat) {pend : List Pd} {ρf : Nat → Value} {Lp : List SProp}, Inv w0 A ro P l n ds b pu Lq ρ0 listed (πa ++ i :: πb) pend ρf → okOrder lou b (πa ++ i :: πb) = true →
    (∀ k, isAnc b i k = true → k < l.length → listed.getD k false = true) → Ob w0 A ro P l n ds lou pu Lq K (πa ++ i :: πb) ρf Lp →
    ∃ pend' ρf', Inv w0 A ro P l n ds b pu Lq ρ0 listed (i :: πb) pend' ρf' ∧ okOrder lou b (i :: πb) = true ∧ Ob w0 A ro P l n ds lou pu Lq K (i :: πb) ρf' Lp ∧ cur l ρ0 pend' ρf' = cur l ρ0 pend ρf ∧ pend'.length = pend.length + πa.length
  | [], pend, ρf, Lp, h, ho, _, hob => ⟨pend, ρf, h, ho, hob, rfl, by simp⟩
  | k :: πa, pend, ρf, Lp, h, ho, hr, hob => by
    have hq : lou.contains k = false := by
      cases hc : lou.contains k with
      | false => rfl
      | true =>
        have h1 : okOrder lou b (k :: (πa ++ i :: πb)) = true := ho
        simp only [okOrder, Bool.and_eq_true, hc, Bool.not_true, Bool.false_or, List.all_eq_true] at h1
        have h2 := h1.1.1 i (by simp)
        obtain ⟨h3, h4, _⟩ := h.inπ k (by simp)
        rw [hr k h2 h3] at h4; cases h4
    obtain ⟨v, o, _, hi, hob', hc⟩ := h.pop rf ho hq hob
    obtain ⟨pend', ρf', h1, h2, h3, h4, h5⟩ := Inv.pops rf πa hi (okOrder_tail ho) hr hob'
    exact ⟨pend', ρf', h1, h2, h3, h4.trans hc, by rw [h5]; simp; omega⟩

theorem getD_set {listed : Array Bool} {i j : Nat} (hi : i < listed.size) : (listed.setIfInBounds i true).getD j false = if j = i then true else listed.getD j false := by
  by_cases e : j = i
  · subst e; simp [hi]
  · have e' : i ≠ j := fun h => e h.symm
    simp [Array.getElem?_setIfInBounds_ne e', e]

theorem draw_sound (rf : RegFacts l n b) (hbm : b = masks l []) {Q : Exit → Act → World → Prop} (hK : ∀ ρ L, K ρ L → G w0 A L (fun w => Q .normal (act n ρ ds) w)) :
    ∀ (k : Nat) (Lq : List SProp) (listed : Array Bool) (π : List Nat) (pend : List Pd) (ρf : Nat → Value) (Lp : List SProp) (w : World), Inv w0 A ro P l n ds b pu Lq ρ0 listed π pend ρf → okOrder lou b π = true → Ob w0 A ro P l n ds lou pu Lq K π ρf Lp →
      k = pend.length + π.length → Std w0 w → holds (star A (sl (Lq ++ Lp))) w → wpAnyIn (WF ro) 0 P .any l.toArray Q k listed (act n (cur l ρ0 pend ρf) ds) w := by
  intro k
  induction k with
  | zero =>
    intro Lq listed π pend ρf Lp w hI ho hob hk hw hh
    have hp : pend = [] := List.eq_nil_of_length_eq_zero (by omega)
    have hπ : π = [] := List.eq_nil_of_length_eq_zero (by omega)
    subst hp hπ
    refine ⟨?_, ?_⟩
    · unfold Region.ready
      rw [List.filter_eq_nil_iff]
      intro i hi
      have hil : i < l.length := by simpa using hi
      have h1 : listed.getD i false = true := by
        rcases hI.all i hil with h1 | ⟨p, hp, _⟩ | h1
        · exact h1
        · cases hp
        · cases h1
      have h2 : listed.getD i true = true := by
        have his : i < listed.size := by rw [hI.sz]; exact hil
        simp [his] at h1 ⊢
        exact h1
      rw [h2]
      simp
    · have h4 := hK ρf (Lq ++ Lp) (by simpa [Ob, ObR] using hob) w hw hh
      have e : cur l ρ0 [] ρf = ρf := by funext t; simp [cur]
      rw [e]
      exact h4
  | succ k ih =>
    intro Lq listed π pend ρf Lp w hI ho hob hk hw hh
    have getT : ∀ i, i < l.length → listed.getD i true = listed.getD i false := fun i hi => by
      have his : i < listed.size := by rw [hI.sz]; exact hi
      simp [his]
    refine ⟨?_, ?_⟩
    · -- something is ready: the least that is not listed
      intro hnil
      exfalso
      obtain ⟨j, hj, hjl⟩ : ∃ j, j < l.length ∧ listed.getD j false = false := by
        cases pend with
        | cons p _ => exact ⟨p.1, (hI.inP p List.mem_cons_self).1, (hI.inP p List.mem_cons_self).2⟩
        | nil =>
          cases π with
          | cons j _ => exact ⟨j, (hI.inπ j List.mem_cons_self).1, (hI.inπ j List.mem_cons_self).2.1⟩
          | nil => simp at hk
      have key : ∀ j, j < l.length → listed.getD j false = true := by
        intro j
        induction j using Nat.strongRecOn with
        | _ j ihj =>
          intro hj
          cases hc : listed.getD j false with
          | true => rfl
          | false =>
            have : j ∈ Region.ready .any l.toArray listed := by
              unfold Region.ready
              rw [List.mem_filter]
              refine ⟨by simpa using hj, ?_⟩
              rw [getT j hj, hc]
              simp only [Bool.not_false, Bool.true_and, List.getElem?_toArray, List.getElem?_eq_getElem hj, Option.map_some, Option.getD_some]
              rw [Array.all_eq_true_iff_forall_mem]
              intro e he
              cases hb : Region.binds .any e with
              | false => rfl
              | true =>
                have hlt := rf.back j l[j] (List.getElem?_eq_getElem hj) e he hb
                simpa using ihj e.on hlt (by omega)
            rw [hnil] at this; cases this
      rw [key j hj] at hjl; cases hjl
    · intro i hi
      unfold Region.ready at hi
      rw [List.mem_filter] at hi
      obtain ⟨hil, hi⟩ := hi
      have hil : i < l.length := by simpa using hil
      rw [getT i hil] at hi
      simp only [Bool.and_eq_true, List.getElem?_toArray, List.getElem?_eq_getElem hil, Option.map_some, Option.getD_some] at hi
      obtain ⟨hnl, hed⟩ := hi
      have hnl : listed.getD i false = false := by simpa using hnl
      rw [Array.all_eq_true_iff_forall_mem] at hed
      have hoi : l[i]? = some l[i] := List.getElem?_eq_getElem hil
      -- its ancestors are listed
      have hanc : ∀ j, isAnc b i j = true → j < l.length → listed.getD j false = true := by
        intro j ha hj
        obtain ⟨e, he, hb, hx⟩ := rf.step i l[i] hoi j hj ha
        have h1 := hed e he
        rw [hb] at h1
        simp only [Bool.not_true, Bool.false_or] at h1
        rcases hx with rfl | hx
        · exact h1
        · exact hI.closed e.on j h1 hx hj
      have hlsz : i < listed.size := by rw [hI.sz]; exact hil
      have hclosed' : ∀ x y, (listed.setIfInBounds i true).getD x false = true → isAnc b x y = true → y < l.length → (listed.setIfInBounds i true).getD y false = true := by
        intro x y hx ha hy
        rw [getD_set hlsz] at hx ⊢
        split
        · rfl
        · split at hx
          · rename_i e; subst e; exact hanc y ha hy
          · exact hI.closed x y hx ha hy
      -- the case of an operation that has been walked and not run
      have pendCase : ∀ (π : List Nat) (pend : List Pd) (ρf : Nat → Value), Inv w0 A ro P l n ds b pu Lq ρ0 listed π pend ρf → okOrder lou b π = true → Ob w0 A ro P l n ds lou pu Lq K π ρf Lp → k + 1 = pend.length + π.length → (∃ p ∈ pend, p.1 = i) →
          wpOpIn (WF ro) 0 P l.toArray Q i (wpAnyIn (WF ro) 0 P .any l.toArray Q k (listed.setIfInBounds i true)) (act n (cur l ρ0 pend ρf) ds) w := by
        rintro π pend ρf hI ho hob hk ⟨p, hp, hpi⟩
        obtain ⟨hst, hdv, hlk⟩ := hI.pq p hp l[i] (by rw [hpi]; exact hoi)
        have hopd := rf.op i l[i] hoi
        have hcl : ∀ t ∈ (l[i]).looksAt l.toArray, cur l ρ0 pend ρf t = p.2.1 t := by
          intro t ht
          unfold cur
          cases hany : pend.any (fun p => dstAt l p.1 == some t) with
          | true =>
            rw [cond_true]
            rw [List.any_eq_true] at hany
            obtain ⟨q, hq, hqd⟩ := hany
            have hqd : dstAt l q.1 = some t := by simpa using hqd
            refine ((hlk t ht).2 fun j hj ha e => ?_).symm
            have : j = q.1 := rf.dne j q.1 t hj (hI.inP q hq).1 e hqd
            rw [hpi] at ha
            rw [this] at ha
            have := hanc q.1 ha (hI.inP q hq).1
            rw [(hI.inP q hq).2] at this; cases this
          | false =>
            rw [cond_false]
            by_cases hex : ∃ j, j < l.length ∧ isAnc b p.1 j = true ∧ dstAt l j = some t
            · exact ((hlk t ht).1 hex).symm
            · have hno : ∀ j, j < l.length → isAnc b p.1 j = true → dstAt l j ≠ some t := fun j hj ha e => hex ⟨j, hj, ha, e⟩
              rw [(hlk t ht).2 hno]
              refine hI.base t fun j hj hjn e => ?_
              have hjp : ∀ q ∈ pend, q.1 ≠ j := fun q hq e2 => by
                have : pend.any (fun p => dstAt l p.1 == some t) = true := by
                  rw [List.any_eq_true]
                  exact ⟨q, hq, by rw [e2, e]; simp⟩
                rw [hany] at this; cases this
              rcases rf.look i l[i] hoi t ht j hj e with h1 | h1 | h1
              · exact hno j hj (by rw [hpi]; exact h1) e
              · exact hjp p hp (by rw [hpi, h1])
              · rcases hI.all j hj with h2 | ⟨q, hq, e2⟩ | h2
                · have := hI.closed j i h2 h1 hil
                  rw [hnl] at this; cases this
                · exact hjp q hq e2
                · exact hjn h2
        have hrun := (hst.1 Lp).run (ρ' := cur l ρ0 pend ρf) (by intro c e; rw [e] at hopd; cases hopd) (by intro cs bb e; rw [e] at hopd; cases hopd) (rf.dlt i l[i] hoi) hcl hw hh
          (next := wpAnyIn (WF ro) 0 P .any l.toArray Q k (listed.setIfInBounds i true)) (Q := Q) (fun v u M w' hr hvu hw' hh' => ?_)
        · unfold wpOpIn
          simp only [List.getElem?_toArray, hoi]
          split
          · rename_i hwant; rw [if_pos hwant] at hrun; exact hrun
          · rename_i hwant; rw [if_neg hwant] at hrun; exact ⟨fun _ _ => trivial, hrun⟩
        · obtain ⟨rfl, rfl⟩ := hr
          -- it has been run
          obtain ⟨pa, pb, hpp⟩ := List.append_of_mem hp
          have hnP := hI.nP
          rw [hpp, List.map_append, List.map_cons] at hnP
          have hsplit := List.nodup_append.1 hnP
          have hne : ∀ q ∈ pa ++ pb, q.1 ≠ i := by
            intro q hq e
            rcases List.mem_append.1 hq with hq | hq
            · exact hsplit.2.2 q.1 (List.mem_map.2 ⟨q, hq, rfl⟩) p.1 List.mem_cons_self (by rw [e, hpi])
            · exact (List.nodup_cons.1 hsplit.2.1).1 (by rw [hpi, ← e]; exact List.mem_map.2 ⟨q, hq, rfl⟩)
          have hmem : ∀ q, q ∈ pa ++ pb → q ∈ pend := fun q hq => by
            rw [hpp]
            rcases List.mem_append.1 hq with hq | hq
            · exact List.mem_append_left _ hq
            · exact List.mem_append_right _ (List.mem_cons_of_mem _ hq)
          have hmem' : ∀ q, q ∈ pend → q = p ∨ q ∈ pa ++ pb := fun q hq => by
            rw [hpp] at hq
            rcases List.mem_append.1 hq with hq | hq
            · exact .inr (List.mem_append_left _ hq)
            · rcases List.mem_cons.1 hq with hq | hq
              · exact .inl hq
              · exact .inr (List.mem_append_right _ hq)
          have hcur : updo (cur l ρ0 pend ρf) (l[i]).dst v = cur l ρ0 (pa ++ pb) ρf := by
            funext t
            by_cases e : (l[i]).dst = some t
            · have h1 : (pa ++ pb).any (fun p => dstAt l p.1 == some t) = false := by
                rw [List.any_eq_false]
                intro q hq
                simp only [beq_iff_eq]
                intro e2
                exact hne q hq (rf.dne q.1 i t (hI.inP q (hmem q hq)).1 hil e2 (by rw [dstAt_of hoi]; exact e))
              rw [e]
              simp only [updo, upd_same, cur, h1]
              rw [hvu t e]
              exact (hdv t e).symm
            · rw [updo_ne e]
              unfold cur
              have : pend.any (fun p => dstAt l p.1 == some t) = (pa ++ pb).any (fun p => dstAt l p.1 == some t) := by
                have hpd : (dstAt l p.1 == some t) = false := by rw [hpi, dstAt_of hoi]; simpa using e
                rw [hpp]
                simp [hpd]
              rw [this]
          rw [hcur]
          refine ih Lq (listed.setIfInBounds i true) π (pa ++ pb) ρf Lp w' ?_ ho hob (by rw [hpp] at hk; simp at hk ⊢; omega) hw' hh'
          refine ⟨by simpa using hI.sz, ?_, ?_, ?_, hI.nπ, ?_, hclosed', hI.base, fun q hq => hI.pa q (hmem q hq), fun q hq => hI.pq q (hmem q hq)⟩
          · intro j hj
            obtain ⟨h1, h2, h3⟩ := hI.inπ j hj
            have hji : j ≠ i := fun e => h3 p hp (by rw [hpi, e])
            exact ⟨h1, by rw [getD_set hlsz, if_neg hji]; exact h2, fun q hq => h3 q (hmem q hq)⟩
          · intro q hq
            obtain ⟨h1, h2⟩ := hI.inP q (hmem q hq)
            exact ⟨h1, by rw [getD_set hlsz, if_neg (hne q hq)]; exact h2⟩
          · intro j hj
            rw [getD_set hlsz]
            by_cases e : j = i
            · left; rw [if_pos e]
            · rw [if_neg e]
              rcases hI.all j hj with h1 | ⟨q, hq, e2⟩ | h1
              · exact .inl h1
              · rcases hmem' q hq with rfl | hq'
                · exact absurd (e2.symm.trans hpi) e
                · exact .inr (.inl ⟨q, hq', e2⟩)
              · exact .inr (.inr h1)
          · rw [List.map_append, List.nodup_append]
            exact ⟨hsplit.1, (List.nodup_cons.1 hsplit.2.1).2, fun x hx y hy => hsplit.2.2 x hx y (List.mem_cons_of_mem _ hy)⟩
      rcases hI.all i hil with h1 | h1 | h1
      · rw [hnl] at h1; cases h1
      · exact pendCase π pend ρf hI ho hob (by omega) h1
      · obtain ⟨πa, πb, hπ⟩ := List.append_of_mem h1
        subst hπ
        obtain ⟨pend', ρf', hI', ho', hob', hcur, hlen⟩ := hI.pops rf πa ho hanc hob
        rw [← hcur]
        cases hl : lou.contains i with
        | false =>
          obtain ⟨v, o, _, hI2, hob2, hc2⟩ := hI'.pop rf ho' hl hob'
          rw [← hc2]
          exact pendCase πb _ _ hI2 (okOrder_tail ho') hob2 (by simp at hk ⊢; omega) ⟨_, List.mem_cons_self, rfl⟩
        | true =>
          simp only [Ob, ObR, hoi, hl, if_true] at hob'
          have hopd := rf.op i l[i] hoi
          have hcl : ∀ t ∈ (l[i]).looksAt l.toArray, cur l ρ0 pend' ρf' t = ρf' t := by
            intro t ht
            unfold cur
            have hno : pend'.any (fun p => dstAt l p.1 == some t) = false := by
             rw [List.any_eq_false]
             intro q hq
             simp only [beq_iff_eq]
             intro hqd
             have hql := (hI'.inP q hq).1
             rcases rf.look i l[i] hoi t ht q.1 hql hqd with h2 | h2 | h2
             · have := hanc q.1 h2 hql
               rw [(hI'.inP q hq).2] at this; cases this
             · exact (hI'.inπ i List.mem_cons_self).2.2 q hq h2.symm
             · rw [hI'.pa q hq i List.mem_cons_self] at h2; cases h2
            rw [hno]
            rfl
          have hrun := hob'.run (ρ' := cur l ρ0 pend' ρf') (by intro c e; rw [e] at hopd; cases hopd) (by intro cs bb e; rw [e] at hopd; cases hopd) (rf.dlt i l[i] hoi) hcl hw hh
            (next := wpAnyIn (WF ro) 0 P .any l.toArray Q k (listed.setIfInBounds i true)) (Q := Q) (fun v u M w' hr hvu hw' hh' => ?_)
          · unfold wpOpIn
            simp only [List.getElem?_toArray, hoi]
            split
            · rename_i hwant; rw [if_pos hwant] at hrun; exact hrun
            · rename_i hwant; rw [if_neg hwant] at hrun; exact ⟨fun _ _ => trivial, hrun⟩
          · obtain ⟨Lq', Lp', he, hsy, hob2⟩ := hr
            have hp0 : Lq' = Lq ∨ ∀ q ∈ pend', pu.contains q.1 = true := hsy.imp id fun hs q hq => by
              obtain ⟨hql, hqn⟩ := hI'.inP q hq
              rw [← hbm] at hs
              simp only [okSync, List.all_eq_true, List.mem_range, Bool.or_eq_true, beq_iff_eq] at hs
              rcases hs q.1 hql with (h2 | h2 | h2) | h2
              · exact absurd rfl ((hI'.inπ q.1 (List.mem_cons_of_mem _ (by simpa using h2))).2.2 q hq)
              · exact absurd h2 ((hI'.inπ i List.mem_cons_self).2.2 q hq)
              · rw [hanc q.1 h2 hql] at hqn; cases hqn
              · exact h2
            replace hh' := hh'.ent ((Ent.refl A).star he)
            obtain ⟨hin, hπn⟩ := List.nodup_cons.1 hI'.nπ
            have hnd : ∀ q ∈ pend', ∀ t, (l[i]).dst = some t → dstAt l q.1 ≠ some t := fun q hq t e e2 =>
              (hI'.inπ i List.mem_cons_self).2.2 q hq (rf.dne q.1 i t (hI'.inP q hq).1 hil e2 (by rw [dstAt_of hoi]; exact e))
            have hcur2 : updo (cur l ρ0 pend' ρf') (l[i]).dst v = cur l ρ0 pend' (updo ρf' (l[i]).dst u) := by
              funext t
              by_cases e : (l[i]).dst = some t
              · have h2 : pend'.any (fun p => dstAt l p.1 == some t) = false := by
                  rw [List.any_eq_false]
                  intro q hq
                  simp only [beq_iff_eq]
                  exact hnd q hq t e
                rw [e]
                simp only [updo, upd_same, cur, h2]
                rw [hvu t e]
                simp
              · rw [updo_ne e]
                unfold cur
                rw [updo_ne e]
            rw [hcur2]
            refine ih Lq' (listed.setIfInBounds i true) πb pend' _ Lp' w' ?_ (okOrder_tail ho') hob2 (by simp at hk hlen ⊢; omega) hw' hh'
            refine ⟨by simpa using hI'.sz, ?_, ?_, ?_, hπn, hI'.nP, hclosed', ?_, ?_, ?_⟩
            · intro j hj
              obtain ⟨h2, h3, h4⟩ := hI'.inπ j (List.mem_cons_of_mem _ hj)
              have hji : j ≠ i := fun e => hin (by rw [← e]; exact hj)
              exact ⟨h2, by rw [getD_set hlsz, if_neg hji]; exact h3, h4⟩
            · intro q hq
              obtain ⟨h2, h3⟩ := hI'.inP q hq
              exact ⟨h2, by rw [getD_set hlsz, if_neg ((hI'.inπ i List.mem_cons_self).2.2 q hq)]; exact h3⟩
            · intro j hj
              rw [getD_set hlsz]
              by_cases e : j = i
              · left; rw [if_pos e]
              · rw [if_neg e]
                rcases hI'.all j hj with h2 | h2 | h2
                · exact .inl h2
                · exact .inr (.inl h2)
                · rcases List.mem_cons.1 h2 with h2 | h2
                  · exact absurd h2 e
                  · exact .inr (.inr h2)
            · intro t ht
              rw [updo_ne (by rw [← dstAt_of hoi]; exact ht i hil hin)]
              exact hI'.base t fun j hj hjn => ht j hj fun hjm => hjn (List.mem_cons_of_mem _ hjm)
            · intro q hq j hj
              exact hI'.pa q hq j (List.mem_cons_of_mem _ hj)
            · intro q hq o' ho2
              obtain ⟨h2, h3, h4⟩ := hI'.pq q hq o' ho2
              replace h2 : (∀ X, OStep w0 A ro P l.toArray n ds q.2.1 (Lq' ++ X) o' (fun u M => u = q.2.2 ∧ M = Lq' ++ X)) ∧ (pu.contains q.1 = true → ∀ X, OStep w0 A ro P l.toArray n ds q.2.1 X o' (fun u M => u = q.2.2 ∧ M = X)) := by
                rcases hp0 with rfl | hp0
                · exact h2
                · exact ⟨fun X => h2.2 (hp0 q hq) (Lq' ++ X), h2.2⟩
              refine ⟨h2, fun d hd => ?_, fun t ht => ⟨?_, (h4 t ht).2⟩⟩
              · rw [updo_ne]
                · exact h3 d hd
                · intro e; exact hnd q hq d e (by rw [dstAt_of ho2]; exact hd)
              · rintro ⟨j, hj, ha, hd⟩
                rw [(h4 t ht).1 ⟨j, hj, ha, hd⟩]
                refine (updo_ne fun e => ?_).symm
                have : j = i := rf.dne j i t hj hil hd (by rw [dstAt_of hoi]; exact e)
                subst this
                rw [hI'.pa q hq j List.mem_cons_self] at ha; cases ha
end sound

/-- **A region that draws its order.** 'lou': the loud operations (they may change what is owned; each two of them are ordered); 'π': the order in which the walk takes all; 'Lq': what the quiet ones may read. -/
theorem g_draw {L : List SProp} {Q : Exit → Act → World → Prop} {ρ : Nat → Value} {id : Nat} {l : List Oper} (lou pu π : List Nat) (Lq : List SProp) {Lp : List SProp} (hm : P.follows .mixedOrders = true)
    (hok : (okRegion l n (masks l []) && okOrder lou (masks l []) π && okPerm l.length π) = true) [tk : Take L Lq Lp]
    (h : Ob w0 A ro P l n ds lou pu Lq (fun ρ' L' => G w0 A L' (fun w => Q .normal (act n ρ' ds) w)) π ρ Lp) :
    G w0 A L (fun w => (Code.region id l.toArray true).wpIn (WF ro) 0 P Q (act n ρ ds) w) := by
  simp only [Bool.and_eq_true] at hok
  obtain ⟨⟨h1, h2⟩, h3⟩ := hok
  refine G.perm tk.perm fun w hw hh => ?_
  refine wpIn_region_any hm ?_
  simp only [okPerm, Bool.and_eq_true, beq_iff_eq, List.all_eq_true, List.mem_range] at h3
  obtain ⟨⟨hlen, hall⟩, hnd, hlt⟩ := h3
  have hmem : ∀ i, i < l.length → i ∈ π := fun i hi => by simpa using hall i hi
  have hin : ∀ j ∈ π, j < l.length := fun j hj => by have := hlt j hj; rwa [Nat.blt_eq] at this
  have hrep : ∀ j, (Array.replicate l.toArray.size false).getD j false = false := fun j => by
    simp only [Array.getD_eq_getD_getElem?, Array.getElem?_replicate]
    split <;> rfl
  have := draw_sound (ro := ro) (P := P) (ρ0 := ρ) (RegFacts.of h1) rfl (Q := Q) (fun _ _ x => x) l.toArray.size Lq (Array.replicate l.toArray.size false) π [] ρ Lp w.drew ?_ h2 h (by simp [hlen]) (hw.trans (.drew w)) (hh.le (Le.refl _))
  · have e : cur l ρ [] ρ = ρ := by funext t; simp [cur]
    rw [e] at this
    exact this
  · refine ⟨by simp, ?_, by simp, ?_, nodup_of hnd, by simp, ?_, ?_, by simp, by simp⟩
    · intro j hj
      exact ⟨hin j hj, hrep j, by simp⟩
    · intro j hj
      exact .inr (.inr (hmem j hj))
    · intro i j hi
      rw [hrep i] at hi; cases hi
    · intro t _
      rfl

section
variable {l : List Oper} {lou pu : List Nat} {Lq : List SProp} {K : (Nat → Value) → List SProp → Prop} {i : Nat} {π : List Nat} {ρ : Nat → Value} {Lp : List SProp} {o : Oper}
theorem ob_nil (h : K ρ (Lq ++ Lp)) : Ob w0 A ro P l n ds lou pu Lq K [] ρ Lp := h
theorem ob_q (hi : l[i]? = some o) (hl : lou.contains i = false) (hp : pu.contains i = false) (h : ∃ v, (∀ X, OStep w0 A ro P l.toArray n ds ρ (Lq ++ X) o (fun u M => u = v ∧ M = Lq ++ X)) ∧ Ob w0 A ro P l n ds lou pu Lq K π (updo ρ o.dst v) Lp) :
    Ob w0 A ro P l n ds lou pu Lq K (i :: π) ρ Lp := by
  simp only [Ob, ObR, hi, hl]
  obtain ⟨v, h1, h2⟩ := h
  exact ⟨v, ⟨h1, fun e => by rw [hp] at e; cases e⟩, h2⟩
/-- A pure operation. -/
theorem ob_p (hi : l[i]? = some o) (hl : lou.contains i = false) (h : ∃ v, (∀ X, OStep w0 A ro P l.toArray n ds ρ X o (fun u M => u = v ∧ M = X)) ∧ Ob w0 A ro P l n ds lou pu Lq K π (updo ρ o.dst v) Lp) :
    Ob w0 A ro P l n ds lou pu Lq K (i :: π) ρ Lp := by
  simp only [Ob, ObR, hi, hl]
  obtain ⟨v, h1, h2⟩ := h
  exact ⟨v, ⟨fun X => h1 (Lq ++ X), fun _ => h1⟩, h2⟩
/-- A loud operation. -/
theorem ob_l (hi : l[i]? = some o) (hl : lou.contains i = true) (h : OStep w0 A ro P l.toArray n ds ρ (Lq ++ Lp) o (fun v M => ∃ Lp', Ent (sl M) (sl (Lq ++ Lp')) ∧ Ob w0 A ro P l n ds lou pu Lq K π (updo ρ o.dst v) Lp')) :
    Ob w0 A ro P l n ds lou pu Lq K (i :: π) ρ Lp := by
  simp only [Ob, ObR, hi, hl, if_true]
  exact fun Q hn => h Q fun v M ⟨Lp', h1, h2⟩ => hn v M ⟨Lq, Lp', h1, .inl rfl, h2⟩
/-- A loud operation that all that was walked ahead of it are ancestors of: from here on other things may be read. -/
theorem ob_s (Lq' : List SProp) (hi : l[i]? = some o) (hl : lou.contains i = true) (hs : okSync (masks l []) l.length i π pu = true)
    (h : OStep w0 A ro P l.toArray n ds ρ (Lq ++ Lp) o (fun v M => ∃ Lp', Ent (sl M) (sl (Lq' ++ Lp')) ∧ Ob w0 A ro P l n ds lou pu Lq' K π (updo ρ o.dst v) Lp')) :
    Ob w0 A ro P l n ds lou pu Lq K (i :: π) ρ Lp := by
  simp only [Ob, ObR, hi, hl, if_true]
  exact fun Q hn => h Q fun v M ⟨Lp', h1, h2⟩ => hn v M ⟨Lq', Lp', h1, .inr hs, h2⟩
end
end
end Go.Sl.Pu
/- The law on the order of elements, walked. -/
namespace Go.Proofs.Ytdpbjoldgiikkaa
open Go Go.Sl
attribute [local irreducible] Exit.then Exit.inBlock Code.wpIn roundPost bodyPostM runL Ret Meets MeetsD Begin

/-! ### Plain -/
def unG (e : ElemD) : ElemD := { e with goal := false }
def unT (e : ElemD) : ElemD := { e with tag := 0 }
theorem tagD_un : ∀ (n : Int) (l : List ElemD), tagD n (l.map unT) = tagD n l
  | _, [] => rfl
  | n, e :: l => by simp only [List.map_cons, tagD, tagD_un (n + 1) l]; rfl
theorem srt_un {l : List ElemD} (h : Srt ElemD.cmp l) : Srt ElemD.cmp (l.map unT) := fun i j a b hij ha hb => by
  rw [List.getElem?_map] at ha hb
  obtain ⟨x, hx, rfl⟩ := Option.map_eq_some_iff.1 ha
  obtain ⟨y, hy, rfl⟩ := Option.map_eq_some_iff.1 hb
  exact h i j x y hij hx hy
theorem has_sort (l : List ElemD) (z : ElemD) : hasC ElemD.cmp (sortE l) z = hasC ElemD.cmp l z := by
  unfold sortE; rw [hasC_fold linElem]; rfl
theorem mem_sort {l : List ElemD} : ∀ x ∈ sortE l, x ∈ l := by
  have : ∀ (m a : List ElemD), ∀ x ∈ m.foldl (insC ElemD.cmp) a, x ∈ a ∨ x ∈ m := by
    intro m
    induction m with
    | nil => exact fun a x hx => .inl hx
    | cons y m ih =>
      intro a x hx
      rcases ih _ x hx with h | h
      · rcases mem_insC.1 h with h | ⟨_, rfl⟩
        · exact .inl h
        · exact .inr List.mem_cons_self
      · exact .inr (List.mem_cons_of_mem _ h)
  intro x hx
  rcases this l [] x hx with h | h
  · cases h
  · exact h
theorem un_eq {l m : List ElemD} (hl : ∀ e ∈ l, e.goal = false) (hm : ∀ e ∈ m, e.goal = false) (h : ∀ z, hasC ElemD.cmp l z = hasC ElemD.cmp m z) : (sortE l).map unT = (sortE m).map unT := by
  have half : ∀ {l m : List ElemD}, (∀ e ∈ l, e.goal = false) → (∀ e ∈ m, e.goal = false) → (∀ z, hasC ElemD.cmp l z = hasC ElemD.cmp m z) → ∀ z ∈ (sortE l).map unT, z ∈ (sortE m).map unT := by
    intro l m hl hm h z hz
    obtain ⟨x, hx, rfl⟩ := List.mem_map.1 hz
    have h1 : hasC ElemD.cmp (sortE m) x = true := by
      rw [has_sort, ← h, ← has_sort]
      exact List.any_eq_true.2 ⟨x, hx, decide_eq_true (linElem.refl x)⟩
    obtain ⟨y, hy, hc⟩ := List.any_eq_true.1 h1
    refine List.mem_map.2 ⟨y, hy, ?_⟩
    obtain ⟨e1, e2, e3, e4⟩ := ElemD.cmp_iff.1 (of_decide_eq_true hc)
    have g1 := hl x (mem_sort x hx)
    have g2 := hm y (mem_sort y hy)
    obtain ⟨i, a, v, ac, g, t⟩ := x
    obtain ⟨i', a', v', ac', g', t'⟩ := y
    dsimp only at e1 e2 e3 e4 g1 g2
    subst e1 e2 e3 e4 g1 g2
    rfl
  exact (srt_un (sortE_srt' l)).ext linElem (srt_un (sortE_srt' m)) fun z => ⟨half hl hm h z, half hm hl (fun z => (h z).symm) z⟩
theorem orders10 {a b : List ElemD} (hp : b.Perm a) (ha : ∀ e ∈ a, e.goal = false) (room next : Int) : setD room next [] (b ++ a) = setD room next [] a := by
  have hb : ∀ e ∈ b, e.goal = false := fun e he => ha e (hp.mem_iff.1 he)
  have hv : (b ++ a).all validE = a.all validE := by
    rw [Bool.eq_iff_iff, List.all_eq_true, List.all_eq_true]
    exact ⟨fun h e he => h e (List.mem_append_right _ he), fun h e he => by
      rcases List.mem_append.1 he with he | he
      · exact h e (hp.mem_iff.1 he)
      · exact h e he⟩
  have hh : ∀ z, hasC ElemD.cmp (b ++ a) z = hasC ElemD.cmp a z := fun z => by
    unfold hasC
    rw [Bool.eq_iff_iff, List.any_eq_true, List.any_eq_true]
    exact ⟨fun ⟨e, he, r⟩ => ⟨e, (List.mem_append.1 he).elim (fun h => hp.mem_iff.1 h) id, r⟩, fun ⟨e, he, r⟩ => ⟨e, List.mem_append_right _ he, r⟩⟩
  have hu := un_eq (l := b ++ a) (m := a) (fun e he => (List.mem_append.1 he).elim (hb e) (ha e)) ha hh
  have hlen : (sortE (b ++ a)).length = (sortE a).length := by
    have := congrArg List.length hu
    simpa using this
  have hf : ∀ l : List ElemD, freshD l [] = l := fun l => List.filter_eq_self.2 fun _ _ => rfl
  have ht : tagD next (sortE (b ++ a)) = tagD next (sortE a) := by rw [← tagD_un, hu, tagD_un]
  unfold setD
  rw [hv, hlen, hf, hf, ht, hlen]
  rfl
theorem swapE_perm {α : Type} {ms : List α} {i j : Nat} {a b : α} (ha : ms[i]? = some a) (hb : ms[j]? = some b) : ((ms.set i b).set j a).Perm ms := by
  obtain ⟨hi, rfl⟩ := List.getElem?_eq_some_iff.1 ha
  obtain ⟨hj, rfl⟩ := List.getElem?_eq_some_iff.1 hb
  exact List.set_set_perm hi hj
/-! ### The walks -/
theorem WithinK_spec (a : Int) (n : Nat) (hn : 0 < n) (hn2 : n ≤ 1000000000) {k : Nat} (h : (a % (n : Int)).toNat = k) : Ctr Try.prog 16 [.int .i64 a, .int .i64 (n : Int)] [] (fun v M => v = .int .i64 (k : Int) ∧ M = []) := by
  rw [← h]; exact Within_spec a n hn hn2
set_option maxHeartbeats 1000000 in
theorem plain10_spec (A : Option Addr) (n c : Nat) (l : List ElemD) (hl : l.length = n) (hm : n ≤ 10000) : Ctr Try.prog 21 [.slice A n c] [psl encE 12 A l]
    (fun v M => ∃ S d, v = .slice S n d ∧ M = [oE S d (l.map unG)]) := by
  refine spec_of Try.func21 rfl Try.ntmps21 rfl fun w0 F => ?_
  -- hide
  -- ponder/ponderlaw10.plain
  repeat (first | refine g_endt ?_ | refine g_end ?_ | refine g_then ?_ | refine g_in_normal ?_ | refine g_then_ret ?_ | refine g_in_ret ?_ | refine g_then_exit ?_ | refine g_in_exit rfl ?_ | refine g_in_exit_ne (by decide) ?_ | refine g_seq ?_ | refine g_region ?_ | refine g_block ?_ | refine g_ret ?_ | refine g_return_n ?_ | refine g_exit ?_ | refine g_skip ?_)
  refine g_hideR fun Q_ hQ_ => ?_
  refine o_assign ?_
  refine g_end (G.imp (hQ_ .normal _) ?_)
  clear hQ_ Q_
  try refine g_then ?_
  repeat (first | refine g_endt ?_ | refine g_end ?_ | refine g_then ?_ | refine g_in_normal ?_ | refine g_then_ret ?_ | refine g_in_ret ?_ | refine g_then_exit ?_ | refine g_in_exit rfl ?_ | refine g_in_exit_ne (by decide) ?_ | refine g_seq ?_ | refine g_region ?_ | refine g_block ?_ | refine g_ret ?_ | refine g_return_n ?_ | refine g_exit ?_ | refine g_skip ?_)
  refine g_hideR fun Q_ hQ_ => ?_
  refine o_assign ?_
  refine g_end (G.imp (hQ_ .normal _) ?_)
  clear hQ_ Q_
  try refine g_then ?_
  repeat (first | refine g_endt ?_ | refine g_end ?_ | refine g_then ?_ | refine g_in_normal ?_ | refine g_then_ret ?_ | refine g_in_ret ?_ | refine g_then_exit ?_ | refine g_in_exit rfl ?_ | refine g_in_exit_ne (by decide) ?_ | refine g_seq ?_ | refine g_region ?_ | refine g_block ?_ | refine g_ret ?_ | refine g_return_n ?_ | refine g_exit ?_ | refine g_skip ?_)
  refine g_hideR fun Q_ hQ_ => ?_
  refine o_assign ?_
  refine g_end (G.imp (hQ_ .normal _) ?_)
  clear hQ_ Q_
  try refine g_then ?_
  refine G.nil_slice 25 encE 12 ?_
  repeat (first | refine g_endt ?_ | refine g_end ?_ | refine g_then ?_ | refine g_in_normal ?_ | refine g_then_ret ?_ | refine g_in_ret ?_ | refine g_then_exit ?_ | refine g_in_exit rfl ?_ | refine g_in_exit_ne (by decide) ?_ | refine g_seq ?_ | refine g_region ?_ | refine g_block ?_ | refine g_ret ?_ | refine g_return_n ?_ | refine g_exit ?_ | refine g_skip ?_)
  refine g_loop (σ := {t : Nat × Option Addr × Nat // t.1 ≤ n}) (S := fun t => [(0, .slice A n c), (3, .slice t.1.2.1 ((l.take t.1.1).map unG).length t.1.2.2), (4, .int .i64 (t.1.1 : Int))]) (H := fun t => [oE t.1.2.1 t.1.2.2 ((l.take t.1.1).map unG), psl encE 12 A l]) (μ := fun t => n - t.1.1) (s0 := ⟨(0, none, 0), Nat.zero_le _⟩) (Sat.mem ⟨rfl, rfl, rfl, trivial⟩)
    (t := (inferInstance : Take _ [oE none 0 [], psl encE 12 A l] _)) ?_
  rintro ⟨⟨i, U, u⟩, hi⟩ ρ'
  dsimp only at hi ⊢
  have hul : ((l.take i).map unG).length ≤ i := by simp; omega
  repeat (first | refine g_endt ?_ | refine g_end ?_ | refine g_then ?_ | refine g_in_normal ?_ | refine g_then_ret ?_ | refine g_in_ret ?_ | refine g_then_exit ?_ | refine g_in_exit rfl ?_ | refine g_in_exit_ne (by decide) ?_ | refine g_seq ?_ | refine g_region ?_ | refine g_block ?_ | refine g_ret ?_ | refine g_return_n ?_ | refine g_exit ?_ | refine g_skip ?_)
  refine g_hideR fun Q_ hQ_ => ?_
  refine o_move ?_
  refine o_move ?_
  refine o_len rfl rfl ?_
  refine o_lss rfl rfl ?_
  refine g_end (G.imp (hQ_ .normal _) ?_)
  clear hQ_ Q_
  try refine g_then ?_
  by_cases hin : i < n
  · first | refine g_seq (g_cond_t rfl (by first | rfl | (simp; done) | (simp; omega) | (simp; assumption)) ?_) | refine g_cond_t rfl (by first | rfl | (simp; done) | (simp; omega) | (simp; assumption)) ?_
    obtain ⟨e, he⟩ : ∃ e, l[i]? = some e := ⟨_, List.getElem?_eq_getElem (by omega)⟩
    have hsn : (l.take (i + 1)).map unG = (l.take i).map unG ++ [unG e] := by rw [List.take_add_one, he, List.map_append]; rfl
    generalize (l.take i).map unG = us at hul hsn ⊢
    repeat (first | refine g_endt ?_ | refine g_end ?_ | refine g_then ?_ | refine g_in_normal ?_ | refine g_then_ret ?_ | refine g_in_ret ?_ | refine g_then_exit ?_ | refine g_in_exit rfl ?_ | refine g_in_exit_ne (by decide) ?_ | refine g_seq ?_ | refine g_region ?_ | refine g_block ?_ | refine g_ret ?_ | refine g_return_n ?_ | refine g_exit ?_ | refine g_skip ?_)
    refine g_hideR fun Q_ hQ_ => ?_
    refine o_move ?_
    refine o_move ?_
    refine o_indexR (ys := l) (i := i) rfl rfl rfl (by omega) hl rfl ?_
    refine o_loadE (ys := l) rfl rfl he ?_
    refine o_alloc fun q => ?_
    refine o_store (v := e.val) rfl rfl rfl rfl rfl ?_
    refine g_end (G.imp (hQ_ .normal _) ?_)
    clear hQ_ Q_
    try refine g_then ?_
    refine G.norm q e.val.cells rfl ?_
    repeat (first | refine g_endt ?_ | refine g_end ?_ | refine g_then ?_ | refine g_in_normal ?_ | refine g_then_ret ?_ | refine g_in_ret ?_ | refine g_then_exit ?_ | refine g_in_exit rfl ?_ | refine g_in_exit_ne (by decide) ?_ | refine g_seq ?_ | refine g_region ?_ | refine g_block ?_ | refine g_ret ?_ | refine g_return_n ?_ | refine g_exit ?_ | refine g_skip ?_)
    refine g_hideR fun Q_ hQ_ => ?_
    first | refine o_field rfl ?_ | refine o_fieldR rfl (by omega) ?_
    refine o_store (v := .bool false) rfl rfl rfl rfl rfl ?_
    refine g_end (G.imp (hQ_ .normal _) ?_)
    clear hQ_ Q_
    try refine g_then ?_
    refine G.norm q (unG e).val.cells rfl ?_
    repeat (first | refine g_endt ?_ | refine g_end ?_ | refine g_then ?_ | refine g_in_normal ?_ | refine g_then_ret ?_ | refine g_in_ret ?_ | refine g_then_exit ?_ | refine g_in_exit rfl ?_ | refine g_in_exit_ne (by decide) ?_ | refine g_seq ?_ | refine g_region ?_ | refine g_block ?_ | refine g_ret ?_ | refine g_return_n ?_ | refine g_exit ?_ | refine g_skip ?_)
    refine g_hideR fun Q_ hQ_ => ?_
    refine o_move ?_
    refine o_loadN (v := (unG e).val) rfl rfl rfl ?_
    refine o_litP (e := 25) encE [(unG e)] ((unG e)).val.cells (fun w => by kernel_rfl) (by simp [encE]) (by simp [maxLen]) fun _ => ?_
    refine o_append (xs := us) (ys := [(unG e)]) (by first | rfl | (simp only [List.length_map, List.length_take, List.length_append]; first | rfl | (congr 1; omega))) rfl rfl rfl rfl (fun _ => .inr trivial) (by simp [maxLen]; omega) (by simp; omega) fun U2 u2 => ?_
    refine o_assign ?_
    refine g_end (G.imp (hQ_ .normal _) ?_)
    clear hQ_ Q_
    try refine g_then ?_
    rw [← hsn]
    repeat (first | refine g_endt ?_ | refine g_end ?_ | refine g_then ?_ | refine g_in_normal ?_ | refine g_then_ret ?_ | refine g_in_ret ?_ | refine g_then_exit ?_ | refine g_in_exit rfl ?_ | refine g_in_exit_ne (by decide) ?_ | refine g_seq ?_ | refine g_region ?_ | refine g_block ?_ | refine g_ret ?_ | refine g_return_n ?_ | refine g_exit ?_ | refine g_skip ?_)
    repeat (first | refine g_endt ?_ | refine g_end ?_ | refine g_then ?_ | refine g_in_normal ?_ | refine g_then_ret ?_ | refine g_in_ret ?_ | refine g_then_exit ?_ | refine g_in_exit rfl ?_ | refine g_in_exit_ne (by decide) ?_ | refine g_seq ?_ | refine g_region ?_ | refine g_block ?_ | refine g_ret ?_ | refine g_return_n ?_ | refine g_exit ?_ | refine g_skip ?_)
    refine g_hideR fun Q_ hQ_ => ?_
    refine o_move ?_
    refine o_add (c := ((i + 1 : Nat) : Int)) rfl rfl (by omega) (by omega) (by omega) ?_
    refine o_assign ?_
    refine g_end (G.imp (hQ_ .normal _) ?_)
    clear hQ_ Q_
    try refine g_then ?_
    repeat (first | refine g_endt ?_ | refine g_end ?_ | refine g_then ?_ | refine g_in_normal ?_ | refine g_then_ret ?_ | refine g_in_ret ?_ | refine g_then_exit ?_ | refine g_in_exit rfl ?_ | refine g_in_exit_ne (by decide) ?_ | refine g_seq ?_ | refine g_region ?_ | refine g_block ?_ | refine g_ret ?_ | refine g_return_n ?_ | refine g_exit ?_ | refine g_skip ?_)
    exact g_meets ⟨(i + 1, U2, u2), hin⟩ (by show n - (i + 1) < n - i; omega) (Sat.mem ⟨rfl, (show Value.slice U2 (us.length + 1) u2 = Value.slice U2 ((l.take (i + 1)).map unG).length u2 by rw [hsn, List.length_append]; rfl), rfl, trivial⟩)
  first | refine g_seq (g_cond_f rfl (by simp; omega) ?_) | refine g_cond_f rfl (by simp; omega) ?_
  rw [show l.take i = l from List.take_of_length_le (by omega), List.length_map, hl]
  repeat (first | refine g_endt ?_ | refine g_end ?_ | refine g_then ?_ | refine g_in_normal ?_ | refine g_then_ret ?_ | refine g_in_ret ?_ | refine g_then_exit ?_ | refine g_in_exit rfl ?_ | refine g_in_exit_ne (by decide) ?_ | refine g_seq ?_ | refine g_region ?_ | refine g_block ?_ | refine g_ret ?_ | refine g_return_n ?_ | refine g_exit ?_ | refine g_skip ?_)
  refine g_hideR fun Q_ hQ_ => ?_
  refine o_move ?_
  refine o_assign ?_
  refine g_end (G.imp (hQ_ .normal _) ?_)
  clear hQ_ Q_
  try refine g_then ?_
  repeat (first | refine g_endt ?_ | refine g_end ?_ | refine g_then ?_ | refine g_in_normal ?_ | refine g_then_ret ?_ | refine g_in_ret ?_ | refine g_then_exit ?_ | refine g_in_exit rfl ?_ | refine g_in_exit_ne (by decide) ?_ | refine g_seq ?_ | refine g_region ?_ | refine g_block ?_ | refine g_ret ?_ | refine g_return_n ?_ | refine g_exit ?_ | refine g_skip ?_)
  exact ret1 (K := [oE U u (l.map unG)]) rfl (resT rfl) ⟨U, u, rfl, rfl⟩
theorem plain10K_spec (A : Option Addr) (n c : Nat) (l : List ElemD) (hl : l.length = n) (hm : n ≤ 10000) {als : List ElemD} (h : l.map unG = als) : Ctr Try.prog 21 [.slice A n c] [psl encE 12 A l]
    (fun v M => ∃ S d, v = .slice S n d ∧ M = [oE S d als]) := by
  rw [← h]; exact plain10_spec A n c l hl hm
set_option maxHeartbeats 2000000 in
theorem MemOrders_spec (A : Option Addr) (n c : Nat) (l : List ElemD) (hl : l.length = n) (hn : n ≤ 9223372036854775807) (turn : Int) : Ctr Try.prog 5 [.slice A n c, .int .i64 turn] [psl encE 12 A l] (fun v M => v = .bool true ∧ M = []) := by
  refine spec_of Try.func5 rfl Try.ntmps5 rfl fun w0 F => ?_
  -- hide
  -- ponder/ponderlaw10.MemOrders
  obtain ⟨k, hk⟩ : ∃ k : Nat, (turn % ((n + 1 : Nat) : Int)).toNat = k := ⟨_, rfl⟩
  have hkn := within_lt (by omega) hk
  obtain ⟨als, hals⟩ : ∃ als, l.map unG = als := ⟨_, rfl⟩
  have hal : als.length = n := by rw [← hals, List.length_map, hl]
  have hag : ∀ e ∈ als, e.goal = false := fun e he => by rw [← hals] at he; obtain ⟨x, _, rfl⟩ := List.mem_map.1 he; rfl
  have hdl : (als.drop k).length = n - k := by simp; omega
  have htk : (als.take k).length = k := by simp; omega
  repeat (first | refine g_endt ?_ | refine g_end ?_ | refine g_then ?_ | refine g_in_normal ?_ | refine g_then_ret ?_ | refine g_in_ret ?_ | refine g_then_exit ?_ | refine g_in_exit rfl ?_ | refine g_in_exit_ne (by decide) ?_ | refine g_seq ?_ | refine g_region ?_ | refine g_block ?_ | refine g_ret ?_ | refine g_return_n ?_ | refine g_exit ?_ | refine g_skip ?_)
  refine g_hideR fun Q_ hQ_ => ?_
  refine o_assign ?_
  refine g_end (G.imp (hQ_ .normal _) ?_)
  clear hQ_ Q_
  try refine g_then ?_
  repeat (first | refine g_endt ?_ | refine g_end ?_ | refine g_then ?_ | refine g_in_normal ?_ | refine g_then_ret ?_ | refine g_in_ret ?_ | refine g_then_exit ?_ | refine g_in_exit rfl ?_ | refine g_in_exit_ne (by decide) ?_ | refine g_seq ?_ | refine g_region ?_ | refine g_block ?_ | refine g_ret ?_ | refine g_return_n ?_ | refine g_exit ?_ | refine g_skip ?_)
  refine g_hideR fun Q_ hQ_ => ?_
  refine o_move ?_
  refine o_callp (light_spec A n c 40 l hl hn (by decide)) rfl rfl ?_
  rintro _ _ ⟨rfl, rfl⟩
  refine o_not rfl ?_
  refine g_end (G.imp (hQ_ .normal _) ?_)
  clear hQ_ Q_
  try refine g_then ?_
  cases hlt : lightE l 40 with
  | false =>
    first | refine g_seq (g_cond_t rfl (by first | rfl | (simp; done) | (simp; omega) | (simp; assumption)) ?_) | refine g_cond_t rfl (by first | rfl | (simp; done) | (simp; omega) | (simp; assumption)) ?_
    repeat (first | refine g_endt ?_ | refine g_end ?_ | refine g_then ?_ | refine g_in_normal ?_ | refine g_then_ret ?_ | refine g_in_ret ?_ | refine g_then_exit ?_ | refine g_in_exit rfl ?_ | refine g_in_exit_ne (by decide) ?_ | refine g_seq ?_ | refine g_region ?_ | refine g_block ?_ | refine g_ret ?_ | refine g_return_n ?_ | refine g_exit ?_ | refine g_skip ?_)
    refine g_hideR fun Q_ hQ_ => ?_
    refine o_call (wakes10_spec) rfl rfl ?_
    rintro _ _ ⟨rfl, rfl⟩
    refine o_assign ?_
    refine g_end (G.imp (hQ_ .normal _) ?_)
    clear hQ_ Q_
    try refine g_then ?_
    repeat (first | refine g_endt ?_ | refine g_end ?_ | refine g_then ?_ | refine g_in_normal ?_ | refine g_then_ret ?_ | refine g_in_ret ?_ | refine g_then_exit ?_ | refine g_in_exit rfl ?_ | refine g_in_exit_ne (by decide) ?_ | refine g_seq ?_ | refine g_region ?_ | refine g_block ?_ | refine g_ret ?_ | refine g_return_n ?_ | refine g_exit ?_ | refine g_skip ?_)
    exact ret1 (K := []) rfl (resT rfl) ⟨rfl, rfl⟩
  | true =>
    first | refine g_seq (g_cond_f rfl (by first | rfl | (simp; done) | (simp; omega) | (simp; assumption)) ?_) | refine g_cond_f rfl (by first | rfl | (simp; done) | (simp; omega) | (simp; assumption)) ?_
    obtain ⟨hn40, hsm0⟩ := light_small hlt
    repeat (first | refine g_endt ?_ | refine g_end ?_ | refine g_then ?_ | refine g_in_normal ?_ | refine g_then_ret ?_ | refine g_in_ret ?_ | refine g_then_exit ?_ | refine g_in_exit rfl ?_ | refine g_in_exit_ne (by decide) ?_ | refine g_seq ?_ | refine g_region ?_ | refine g_block ?_ | refine g_ret ?_ | refine g_return_n ?_ | refine g_exit ?_ | refine g_skip ?_)
    refine g_hideR fun Q_ hQ_ => ?_
    refine o_call (NewG_spec 100 (by decide) (by decide)) rfl rfl ?_
    rintro _ _ ⟨s, rfl, rfl⟩
    refine o_move ?_
    refine o_extract rfl rfl ?_
    refine o_extract rfl rfl ?_
    refine o_assign ?_
    refine o_assign ?_
    refine g_end (G.imp (hQ_ .normal _) ?_)
    clear hQ_ Q_
    try refine g_then ?_
    repeat (first | refine g_endt ?_ | refine g_end ?_ | refine g_then ?_ | refine g_in_normal ?_ | refine g_then_ret ?_ | refine g_in_ret ?_ | refine g_then_exit ?_ | refine g_in_exit rfl ?_ | refine g_in_exit_ne (by decide) ?_ | refine g_seq ?_ | refine g_region ?_ | refine g_block ?_ | refine g_ret ?_ | refine g_return_n ?_ | refine g_exit ?_ | refine g_skip ?_)
    refine g_hideR fun Q_ hQ_ => ?_
    refine o_call (NewG_spec 100 (by decide) (by decide)) rfl rfl ?_
    rintro _ _ ⟨t, rfl, rfl⟩
    refine o_move ?_
    refine o_extract rfl rfl ?_
    refine o_extract rfl rfl ?_
    refine o_assign ?_
    refine o_assign ?_
    refine g_end (G.imp (hQ_ .normal _) ?_)
    clear hQ_ Q_
    try refine g_then ?_
    repeat (first | refine g_endt ?_ | refine g_end ?_ | refine g_then ?_ | refine g_in_normal ?_ | refine g_then_ret ?_ | refine g_in_ret ?_ | refine g_then_exit ?_ | refine g_in_exit rfl ?_ | refine g_in_exit_ne (by decide) ?_ | refine g_seq ?_ | refine g_region ?_ | refine g_block ?_ | refine g_ret ?_ | refine g_return_n ?_ | refine g_exit ?_ | refine g_skip ?_)
    refine g_hideR fun Q_ hQ_ => ?_
    refine o_move ?_
    refine o_neq rfl rfl ?_
    refine o_move ?_
    first | (refine o_want rfl rfl rfl rfl rfl ?_; refine o_move ?_) | refine o_unwanted rfl rfl rfl rfl rfl ?_ | refine o_undef rfl rfl rfl ?_
    first | (refine o_want rfl rfl rfl rfl rfl ?_; refine o_neq rfl rfl ?_) | refine o_unwanted rfl rfl rfl rfl rfl ?_ | refine o_undef rfl rfl rfl ?_
    first | refine o_pick_t rfl rfl ?_ | refine o_pick_f rfl rfl ?_
    refine o_move ?_
    first | (refine o_want rfl rfl rfl rfl rfl ?_; refine o_move ?_) | refine o_unwanted rfl rfl rfl rfl rfl ?_ | refine o_undef rfl rfl rfl ?_
    first | (refine o_want rfl rfl rfl rfl rfl ?_; refine o_peql rfl ?_) | refine o_unwanted rfl rfl rfl rfl rfl ?_ | refine o_undef rfl rfl rfl ?_
    first | refine o_pick_t rfl rfl ?_ | refine o_pick_f rfl rfl ?_
    refine o_move ?_
    first | (refine o_want rfl rfl rfl rfl rfl ?_; refine o_move ?_) | refine o_unwanted rfl rfl rfl rfl rfl ?_ | refine o_undef rfl rfl rfl ?_
    first | (refine o_want rfl rfl rfl rfl rfl ?_; refine o_peql rfl ?_) | refine o_unwanted rfl rfl rfl rfl rfl ?_ | refine o_undef rfl rfl rfl ?_
    first | refine o_pick_t rfl rfl ?_ | refine o_pick_f rfl rfl ?_
    refine g_end (G.imp (hQ_ .normal _) ?_)
    clear hQ_ Q_
    try refine g_then ?_
    first | refine g_seq (g_cond_f rfl (by first | rfl | (simp; done) | (simp; omega) | (simp; assumption)) ?_) | refine g_cond_f rfl (by first | rfl | (simp; done) | (simp; omega) | (simp; assumption)) ?_
    repeat (first | refine g_endt ?_ | refine g_end ?_ | refine g_then ?_ | refine g_in_normal ?_ | refine g_then_ret ?_ | refine g_in_ret ?_ | refine g_then_exit ?_ | refine g_in_exit rfl ?_ | refine g_in_exit_ne (by decide) ?_ | refine g_seq ?_ | refine g_region ?_ | refine g_block ?_ | refine g_ret ?_ | refine g_return_n ?_ | refine g_exit ?_ | refine g_skip ?_)
    refine g_hideR fun Q_ hQ_ => ?_
    refine o_move ?_
    refine o_callp (plain10K_spec A n c l hl (by omega) hals) rfl rfl ?_
    rintro _ _ ⟨B, d, rfl, rfl⟩
    refine o_assign ?_
    refine g_end (G.imp (hQ_ .normal _) ?_)
    clear hQ_ Q_
    try refine g_then ?_
    have hsm : ∀ e ∈ als, e.small := fun e he => by rw [← hals] at he; obtain ⟨x, hx, rfl⟩ := List.mem_map.1 he; exact hsm0 x hx
    refine G.bring [oE B d als] ?_
    refine G.frzc fun hroom => ?_
    repeat (first | refine g_endt ?_ | refine g_end ?_ | refine g_then ?_ | refine g_in_normal ?_ | refine g_then_ret ?_ | refine g_in_ret ?_ | refine g_then_exit ?_ | refine g_in_exit rfl ?_ | refine g_in_exit_ne (by decide) ?_ | refine g_seq ?_ | refine g_region ?_ | refine g_block ?_ | refine g_ret ?_ | refine g_return_n ?_ | refine g_exit ?_ | refine g_skip ?_)
    refine g_hideR fun Q_ hQ_ => ?_
    refine o_move ?_
    refine o_move ?_
    refine o_len rfl rfl ?_
    refine o_add (c := ((n + 1 : Nat) : Int)) rfl rfl (by omega) (by omega) (by omega) ?_
    refine o_call (WithinK_spec turn (n + 1) (by omega) (by omega) hk) rfl rfl ?_
    rintro _ _ ⟨rfl, rfl⟩
    refine o_assign ?_
    refine g_end (G.imp (hQ_ .normal _) ?_)
    clear hQ_ Q_
    try refine g_then ?_
    refine g_keep [(5, .pointer (some ⟨s, 0, none⟩)), (7, .pointer (some ⟨t, 0, none⟩)), (9, .slice B n d), (10, .int .i64 (k : Int))] ⟨rfl, rfl, rfl, rfl, trivial⟩ fun ρ9 => ?_
    refine G.taken (enc := encE) (sz := 12) (S := B) (xs := als) k ?_
    refine G.dropped (enc := encE) (sz := 12) (S := B) (xs := als) d k (by omega) ?_
    refine G.nil_slice 25 encE 12 ?_
    repeat (first | refine g_endt ?_ | refine g_end ?_ | refine g_then ?_ | refine g_in_normal ?_ | refine g_then_ret ?_ | refine g_in_ret ?_ | refine g_then_exit ?_ | refine g_in_exit rfl ?_ | refine g_in_exit_ne (by decide) ?_ | refine g_seq ?_ | refine g_region ?_ | refine g_block ?_ | refine g_ret ?_ | refine g_return_n ?_ | refine g_exit ?_ | refine g_skip ?_)
    refine g_hide fun Q_ hQ_ => ?_
    refine g_draw [3,7] [0,1,2,4,5,6,3,7,8] [psl encE 12 (offA B d k 12) (als.drop k), psl encE 12 B (als.take k)] mixed rfl ?_
    refine ob_q rfl rfl ⟨_, fun X Q h => o_move (g_end (h _ _ ⟨rfl, rfl⟩)), ?_⟩
    refine ob_q rfl rfl ⟨_, fun X Q h => o_move (g_end (h _ _ ⟨rfl, rfl⟩)), ?_⟩
    refine ob_q rfl rfl ⟨_, fun X Q h => o_fromP (k := k) rfl rfl rfl (by omega) (g_end (h _ _ ⟨rfl, rfl⟩)), ?_⟩
    refine ob_q rfl rfl ⟨_, fun X Q h => o_move (g_end (h _ _ ⟨rfl, rfl⟩)), ?_⟩
    refine ob_q rfl rfl ⟨_, fun X Q h => o_move (g_end (h _ _ ⟨rfl, rfl⟩)), ?_⟩
    refine ob_q rfl rfl ⟨_, fun X Q h => o_uptoP (k := k) rfl rfl rfl (by omega) (g_end (h _ _ ⟨rfl, rfl⟩)), ?_⟩
    refine ob_l rfl rfl fun Qz hz => o_append0 (ys := als.drop k) rfl rfl rfl rfl hdl (by rw [hdl]; simp [maxLen]; omega) (by rw [hdl]; omega) fun S1 c1 => ?_
    refine g_end (hz _ _ ⟨_, ob_fin, ?_⟩)
    clear hz Qz
    refine ob_l rfl rfl fun Qz hz => o_append (xs := als.drop k) (ys := als.take k) (by rw [hdl]; rfl) rfl rfl rfl htk (fun _ => .inr trivial) (by simp [maxLen]; omega) (by simp; omega) fun S2 c2 => ?_
    refine g_end (hz _ _ ⟨_, ob_fin, ?_⟩)
    clear hz Qz
    refine ob_q rfl rfl ⟨_, fun X Q h => o_assign (g_end (h _ _ ⟨rfl, rfl⟩)), ?_⟩
    refine ob_nil ?_
    refine G.imp (hQ_ .normal _) ?_
    clear hQ_ Q_
    try refine g_then ?_
    have hpm : (als.drop k ++ als.take k).Perm als := (List.perm_append_comm).trans (by rw [List.take_append_drop])
    have hln : (als.drop k).length + (als.take k).length = n := by omega
    generalize als.drop k ++ als.take k = ms0 at hpm ⊢
    repeat (first | refine g_endt ?_ | refine g_end ?_ | refine g_then ?_ | refine g_in_normal ?_ | refine g_then_ret ?_ | refine g_in_ret ?_ | refine g_then_exit ?_ | refine g_in_exit rfl ?_ | refine g_in_exit_ne (by decide) ?_ | refine g_seq ?_ | refine g_region ?_ | refine g_block ?_ | refine g_ret ?_ | refine g_return_n ?_ | refine g_exit ?_ | refine g_skip ?_)
    refine g_hideR fun Q_ hQ_ => ?_
    refine o_assign ?_
    refine g_end (G.imp (hQ_ .normal _) ?_)
    clear hQ_ Q_
    try refine g_then ?_
    repeat (first | refine g_endt ?_ | refine g_end ?_ | refine g_then ?_ | refine g_in_normal ?_ | refine g_then_ret ?_ | refine g_in_ret ?_ | refine g_then_exit ?_ | refine g_in_exit rfl ?_ | refine g_in_exit_ne (by decide) ?_ | refine g_seq ?_ | refine g_region ?_ | refine g_block ?_ | refine g_ret ?_ | refine g_return_n ?_ | refine g_exit ?_ | refine g_skip ?_)
    refine g_loop (σ := {u : Nat × List ElemD // u.1 ≤ n / 2 ∧ u.2.Perm als}) (S := fun u => [(5, .pointer (some ⟨s, 0, none⟩)), (7, .pointer (some ⟨t, 0, none⟩)), (9, .slice B n d), (11, .slice S2 n c2), (12, .int .i64 (u.1.1 : Int))]) (H := fun u => [oE S2 c2 u.1.2, psl encE 12 B als, StP s 100 1 [], StP t 100 1 []]) (μ := fun u => n / 2 - u.1.1) (s0 := ⟨(0, ms0), Nat.zero_le _, hpm⟩)
      (Sat.mem ⟨rfl, rfl, rfl, (by show Value.slice S2 ((als.drop k).length + (als.take k).length) c2 = Value.slice S2 n c2; rw [hln]), rfl, trivial⟩) (t := (inferInstance : Take _ [oE S2 c2 ms0, psl encE 12 B als, StP s 100 1 [], StP t 100 1 []] _)) ?_
    rintro ⟨⟨i, ms⟩, hi, hp⟩ ρ'
    dsimp only at hi hp ⊢
    have hml : ms.length = n := by rw [hp.length_eq, hal]
    repeat (first | refine g_endt ?_ | refine g_end ?_ | refine g_then ?_ | refine g_in_normal ?_ | refine g_then_ret ?_ | refine g_in_ret ?_ | refine g_then_exit ?_ | refine g_in_exit rfl ?_ | refine g_in_exit_ne (by decide) ?_ | refine g_seq ?_ | refine g_region ?_ | refine g_block ?_ | refine g_ret ?_ | refine g_return_n ?_ | refine g_exit ?_ | refine g_skip ?_)
    refine g_hideR fun Q_ hQ_ => ?_
    refine o_move ?_
    refine o_move ?_
    refine o_len rfl rfl ?_
    refine o_quo (c := ((n / 2 : Nat) : Int)) rfl rfl (by omega) (Int.ofNat_tdiv n 2).symm (by omega) (by omega) ?_
    refine o_lss rfl rfl ?_
    refine g_end (G.imp (hQ_ .normal _) ?_)
    clear hQ_ Q_
    try refine g_then ?_
    by_cases hin : i < n / 2
    · first | refine g_seq (g_cond_t rfl (by simp only [decide_eq_true_eq]; omega) ?_) | refine g_cond_t rfl (by simp only [decide_eq_true_eq]; omega) ?_
      obtain ⟨a, ha⟩ : ∃ a, ms[i]? = some a := ⟨_, List.getElem?_eq_getElem (by omega)⟩
      obtain ⟨b, hb⟩ : ∃ b, ms[n - 1 - i]? = some b := ⟨_, List.getElem?_eq_getElem (by omega)⟩
      have hpn := (swapE_perm ha hb).trans hp
      repeat (first | refine g_endt ?_ | refine g_end ?_ | refine g_then ?_ | refine g_in_normal ?_ | refine g_then_ret ?_ | refine g_in_ret ?_ | refine g_then_exit ?_ | refine g_in_exit rfl ?_ | refine g_in_exit_ne (by decide) ?_ | refine g_seq ?_ | refine g_region ?_ | refine g_block ?_ | refine g_ret ?_ | refine g_return_n ?_ | refine g_exit ?_ | refine g_skip ?_)
      refine g_hide fun Q_ hQ_ => ?_
      refine Pu.g_draw [21,23] [0,1,2,3,4,5,6,7,8,9,10,11,12,13,16,17] [0,1,2,3,4,5,6,7,8,9,10,11,12,13,14,15,16,17,18,19,20,21,22,23] [oE S2 c2 ms] mixed rfl ?_
      refine Pu.ob_p rfl rfl ⟨_, fun X Q h => o_move (g_end (h _ _ ⟨rfl, rfl⟩)), ?_⟩
      refine Pu.ob_p rfl rfl ⟨_, fun X Q h => o_move (g_end (h _ _ ⟨rfl, rfl⟩)), ?_⟩
      refine Pu.ob_p rfl rfl ⟨_, fun X Q h => o_move (g_end (h _ _ ⟨rfl, rfl⟩)), ?_⟩
      refine Pu.ob_p rfl rfl ⟨_, fun X Q h => o_move (g_end (h _ _ ⟨rfl, rfl⟩)), ?_⟩
      refine Pu.ob_p rfl rfl ⟨_, fun X Q h => o_len rfl rfl (g_end (h _ _ ⟨rfl, rfl⟩)), ?_⟩
      refine Pu.ob_p rfl rfl ⟨_, fun X Q h => o_sub (c := ((n - 1 : Nat) : Int)) rfl rfl (by omega) (by omega) (by omega) (g_end (h _ _ ⟨rfl, rfl⟩)), ?_⟩
      refine Pu.ob_p rfl rfl ⟨_, fun X Q h => o_move (g_end (h _ _ ⟨rfl, rfl⟩)), ?_⟩
      refine Pu.ob_p rfl rfl ⟨_, fun X Q h => o_sub (c := ((n - 1 - i : Nat) : Int)) rfl rfl (by omega) (by omega) (by omega) (g_end (h _ _ ⟨rfl, rfl⟩)), ?_⟩
      refine Pu.ob_p rfl rfl ⟨_, fun X Q h => o_move (g_end (h _ _ ⟨rfl, rfl⟩)), ?_⟩
      refine Pu.ob_p rfl rfl ⟨_, fun X Q h => o_move (g_end (h _ _ ⟨rfl, rfl⟩)), ?_⟩
      refine Pu.ob_p rfl rfl ⟨_, fun X Q h => o_len rfl rfl (g_end (h _ _ ⟨rfl, rfl⟩)), ?_⟩
      refine Pu.ob_p rfl rfl ⟨_, fun X Q h => o_sub (c := ((n - 1 : Nat) : Int)) rfl rfl (by omega) (by omega) (by omega) (g_end (h _ _ ⟨rfl, rfl⟩)), ?_⟩
      refine Pu.ob_p rfl rfl ⟨_, fun X Q h => o_move (g_end (h _ _ ⟨rfl, rfl⟩)), ?_⟩
      refine Pu.ob_p rfl rfl ⟨_, fun X Q h => o_sub (c := ((n - 1 - i : Nat) : Int)) rfl rfl (by omega) (by omega) (by omega) (g_end (h _ _ ⟨rfl, rfl⟩)), ?_⟩
      refine Pu.ob_q rfl rfl rfl ⟨_, fun X Q h => o_indexR (ys := ms) (i := n - 1 - i) rfl rfl rfl (by omega) hml rfl (g_end (h _ _ ⟨rfl, rfl⟩)), ?_⟩
      refine Pu.ob_q rfl rfl rfl ⟨_, fun X Q h => o_loadE (ys := ms) rfl rfl hb (g_end (h _ _ ⟨rfl, rfl⟩)), ?_⟩
      refine Pu.ob_p rfl rfl ⟨_, fun X Q h => o_move (g_end (h _ _ ⟨rfl, rfl⟩)), ?_⟩
      refine Pu.ob_p rfl rfl ⟨_, fun X Q h => o_move (g_end (h _ _ ⟨rfl, rfl⟩)), ?_⟩
      refine Pu.ob_q rfl rfl rfl ⟨_, fun X Q h => o_indexR (ys := ms) (i := i) rfl rfl rfl (by omega) hml rfl (g_end (h _ _ ⟨rfl, rfl⟩)), ?_⟩
      refine Pu.ob_q rfl rfl rfl ⟨_, fun X Q h => o_loadE (ys := ms) rfl rfl ha (g_end (h _ _ ⟨rfl, rfl⟩)), ?_⟩
      refine Pu.ob_q rfl rfl rfl ⟨_, fun X Q h => o_indexR (ys := ms) (i := i) rfl rfl rfl (by omega) hml rfl (g_end (h _ _ ⟨rfl, rfl⟩)), ?_⟩
      refine Pu.ob_s [oE S2 c2 (ms.set i b)] rfl rfl rfl fun Qz hz => o_storeE (e := 25) (c := c2) (enc := encE) (xs := ms) (v := .agg (encE b).toArray) (z := b) (i := i) rfl rfl rfl rfl (by omega) ?_
      refine g_end (hz _ _ ⟨_, ob_fin, ?_⟩)
      clear hz Qz
      refine Pu.ob_q rfl rfl rfl ⟨_, fun X Q h => o_indexR (ys := ms.set i b) (i := n - 1 - i) rfl rfl rfl (by rw [List.length_set]; omega) (by rw [List.length_set]; exact hml) rfl (g_end (h _ _ ⟨rfl, rfl⟩)), ?_⟩
      refine Pu.ob_s [oE S2 c2 ((ms.set i b).set (n - 1 - i) a)] rfl rfl rfl fun Qz hz => o_storeE (e := 25) (c := c2) (enc := encE) (xs := ms.set i b) (v := .agg (encE a).toArray) (z := a) (i := n - 1 - i) rfl rfl rfl rfl (by rw [List.length_set]; omega) ?_
      refine g_end (hz _ _ ⟨_, ob_fin, ?_⟩)
      clear hz Qz
      refine Pu.ob_nil ?_
      refine G.imp (hQ_ .normal _) ?_
      clear hQ_ Q_
      try refine g_then ?_
      repeat (first | refine g_endt ?_ | refine g_end ?_ | refine g_then ?_ | refine g_in_normal ?_ | refine g_then_ret ?_ | refine g_in_ret ?_ | refine g_then_exit ?_ | refine g_in_exit rfl ?_ | refine g_in_exit_ne (by decide) ?_ | refine g_seq ?_ | refine g_region ?_ | refine g_block ?_ | refine g_ret ?_ | refine g_return_n ?_ | refine g_exit ?_ | refine g_skip ?_)
      repeat (first | refine g_endt ?_ | refine g_end ?_ | refine g_then ?_ | refine g_in_normal ?_ | refine g_then_ret ?_ | refine g_in_ret ?_ | refine g_then_exit ?_ | refine g_in_exit rfl ?_ | refine g_in_exit_ne (by decide) ?_ | refine g_seq ?_ | refine g_region ?_ | refine g_block ?_ | refine g_ret ?_ | refine g_return_n ?_ | refine g_exit ?_ | refine g_skip ?_)
      refine g_hideR fun Q_ hQ_ => ?_
      refine o_move ?_
      refine o_add (c := ((i + 1 : Nat) : Int)) rfl rfl (by omega) (by omega) (by omega) ?_
      refine o_assign ?_
      refine g_end (G.imp (hQ_ .normal _) ?_)
      clear hQ_ Q_
      try refine g_then ?_
      repeat (first | refine g_endt ?_ | refine g_end ?_ | refine g_then ?_ | refine g_in_normal ?_ | refine g_then_ret ?_ | refine g_in_ret ?_ | refine g_then_exit ?_ | refine g_in_exit rfl ?_ | refine g_in_exit_ne (by decide) ?_ | refine g_seq ?_ | refine g_region ?_ | refine g_block ?_ | refine g_ret ?_ | refine g_return_n ?_ | refine g_exit ?_ | refine g_skip ?_)
      exact g_meets ⟨(i + 1, (ms.set i b).set (n - 1 - i) a), hin, hpn⟩ (by show n / 2 - (i + 1) < n / 2 - i; omega) (Sat.mem ⟨rfl, rfl, rfl, rfl, rfl, trivial⟩)
    first | refine g_seq (g_cond_f rfl (by simp only [decide_eq_false_iff_not]; omega) ?_) | refine g_cond_f rfl (by simp only [decide_eq_false_iff_not]; omega) ?_
    obtain ⟨R, hR⟩ : ∃ R, setD 100 1 [] als = R := ⟨_, rfl⟩
    have hRb : RdB 100 1 [] als.length R := by rw [← hR]; exact rdB 100 1 [] als
    obtain ⟨b1, b2, b3, b4, b5⟩ := hRb
    have hR2 : setD 100 1 [] (ms ++ als) = R := by rw [orders10 hp hag]; exact hR
    have hsm2 : ∀ e ∈ ms ++ als, e.small := fun e he => (List.mem_append.1 he).elim (fun h => hsm e (hp.mem_iff.1 h)) (hsm e)
    rw [List.length_nil] at b3 b5
    have hml2 : (ms ++ als).length = n + n := by rw [List.length_append]; omega
    repeat (first | refine g_endt ?_ | refine g_end ?_ | refine g_then ?_ | refine g_in_normal ?_ | refine g_then_ret ?_ | refine g_in_ret ?_ | refine g_then_exit ?_ | refine g_in_exit rfl ?_ | refine g_in_exit_ne (by decide) ?_ | refine g_seq ?_ | refine g_region ?_ | refine g_block ?_ | refine g_ret ?_ | refine g_return_n ?_ | refine g_exit ?_ | refine g_skip ?_)
    refine g_hideR fun Q_ hQ_ => ?_
    refine o_move ?_
    refine o_move ?_
    refine o_call (SetK_spec s 100 1 [] B n d als hal (by omega) hsm (by simp) (by decide) ⟨by decide, by decide⟩ hR) rfl rfl ?_
    rintro _ _ ⟨U, u, W, w, rfl, rfl⟩
    refine o_move ?_
    refine o_extract rfl rfl ?_
    refine o_extract rfl rfl ?_
    refine o_extract rfl rfl ?_
    refine o_assign ?_
    refine o_assign ?_
    refine o_assign ?_
    refine g_end (G.imp (hQ_ .normal _) ?_)
    clear hQ_ Q_
    try refine g_then ?_
    repeat (first | refine g_endt ?_ | refine g_end ?_ | refine g_then ?_ | refine g_in_normal ?_ | refine g_then_ret ?_ | refine g_in_ret ?_ | refine g_then_exit ?_ | refine g_in_exit rfl ?_ | refine g_in_exit_ne (by decide) ?_ | refine g_seq ?_ | refine g_region ?_ | refine g_block ?_ | refine g_ret ?_ | refine g_return_n ?_ | refine g_exit ?_ | refine g_skip ?_)
    refine g_hideR fun Q_ hQ_ => ?_
    refine o_move ?_
    refine o_move ?_
    refine o_move ?_
    refine o_append (xs := ms) (ys := als) (by rw [hml]; rfl) rfl rfl rfl hal (fun _ => .inr trivial) (by simp only [maxLen]; omega) (by omega) fun S3 c3 => ?_
    (refine G.bring [oE S3 c3 (ms ++ als)] ?_; refine G.frz ?_)
    refine o_call (SetK_spec t 100 1 [] S3 (ms.length + als.length) c3 (ms ++ als) (by rw [List.length_append]) (by omega) hsm2 (by simp) (by decide) ⟨by decide, by decide⟩ hR2) rfl rfl ?_
    rintro _ _ ⟨U2, u2, W2, w2, rfl, rfl⟩
    refine o_move ?_
    refine o_extract rfl rfl ?_
    refine o_extract rfl rfl ?_
    refine o_extract rfl rfl ?_
    refine o_assign ?_
    refine o_assign ?_
    refine o_assign ?_
    refine g_end (G.imp (hQ_ .normal _) ?_)
    clear hQ_ Q_
    try refine g_then ?_
    refine G.bring [oE U u R.added, oE U2 u2 R.added, StP s 100 R.next R.ts, StP t 100 R.next R.ts] ?_
    refine G.bring [oE U u R.added] ?_
    refine G.frz ?_
    refine G.bring [oE U2 u2 R.added] ?_
    refine G.frz ?_
    repeat (first | refine g_endt ?_ | refine g_end ?_ | refine g_then ?_ | refine g_in_normal ?_ | refine g_then_ret ?_ | refine g_in_ret ?_ | refine g_then_exit ?_ | refine g_in_exit rfl ?_ | refine g_in_exit_ne (by decide) ?_ | refine g_seq ?_ | refine g_region ?_ | refine g_block ?_ | refine g_ret ?_ | refine g_return_n ?_ | refine g_exit ?_ | refine g_skip ?_)
    refine g_hideR fun Q_ hQ_ => ?_
    refine o_move ?_
    refine o_move ?_
    refine o_eqlT (t := true) rfl rfl (beq_self_eq_true _) ?_
    refine o_move ?_
    first | (refine o_want rfl rfl rfl rfl rfl ?_; refine o_move ?_) | refine o_unwanted rfl rfl rfl rfl rfl ?_ | refine o_undef rfl rfl rfl ?_
    first | (refine o_want rfl rfl rfl rfl rfl ?_; refine o_move ?_) | refine o_unwanted rfl rfl rfl rfl rfl ?_ | refine o_undef rfl rfl rfl ?_
    refine o_want rfl rfl rfl rfl rfl (o_callp (Elems_spec U U2 R.added.length u u2 R.added rfl (by omega)) rfl rfl ?_)
    rintro _ _ ⟨rfl, rfl⟩
    first | refine o_pick_t rfl rfl ?_ | refine o_pick_f rfl rfl ?_
    refine o_move ?_
    first | (refine o_want rfl rfl rfl rfl rfl ?_; refine o_move ?_) | refine o_unwanted rfl rfl rfl rfl rfl ?_ | refine o_undef rfl rfl rfl ?_
    refine o_want rfl rfl rfl rfl rfl (o_call (AllSt_spec s) rfl rfl ?_)
    rintro _ _ ⟨q1, rfl, rfl⟩
    refine o_want rfl rfl rfl rfl rfl (o_call (ListE_spec 50 [.pointer (some ⟨q1, 0, none⟩)] R.ts rfl (by omega) [StP s 100 R.next R.ts, pSt q1 s] (fun K => All1St_iter s q1 100 R.next R.ts (by omega) _)) rfl rfl ?_)
    rintro _ _ ⟨S5, c5, rfl, rfl⟩
    first | (refine o_want rfl rfl rfl rfl rfl ?_; refine o_move ?_) | refine o_unwanted rfl rfl rfl rfl rfl ?_ | refine o_undef rfl rfl rfl ?_
    refine o_want rfl rfl rfl rfl rfl (o_call (AllSt_spec t) rfl rfl ?_)
    rintro _ _ ⟨q2, rfl, rfl⟩
    refine o_want rfl rfl rfl rfl rfl (o_call (ListE_spec 50 [.pointer (some ⟨q2, 0, none⟩)] R.ts rfl (by omega) [StP t 100 R.next R.ts, pSt q2 t] (fun K => All1St_iter t q2 100 R.next R.ts (by omega) _)) rfl rfl ?_)
    rintro _ _ ⟨S6, c6, rfl, rfl⟩
    (refine G.bring [oE S5 c5 R.ts] ?_; refine G.frz ?_; refine G.bring [oE S6 c6 R.ts] ?_; refine G.frz ?_)
    refine o_want rfl rfl rfl rfl rfl (o_callp (Elems_spec S5 S6 R.ts.length c5 c6 R.ts rfl (by omega)) rfl rfl ?_)
    rintro _ _ ⟨rfl, rfl⟩
    first | refine o_pick_t rfl rfl ?_ | refine o_pick_f rfl rfl ?_
    refine o_move ?_
    refine o_want rfl rfl rfl rfl rfl (o_call (wakes10_spec) rfl rfl ?_)
    rintro _ _ ⟨rfl, rfl⟩
    first | refine o_pick_t rfl rfl ?_ | refine o_pick_f rfl rfl ?_
    refine o_assign ?_
    refine g_end (G.imp (hQ_ .normal _) ?_)
    clear hQ_ Q_
    try refine g_then ?_
    repeat (first | refine g_endt ?_ | refine g_end ?_ | refine g_then ?_ | refine g_in_normal ?_ | refine g_then_ret ?_ | refine g_in_ret ?_ | refine g_then_exit ?_ | refine g_in_exit rfl ?_ | refine g_in_exit_ne (by decide) ?_ | refine g_seq ?_ | refine g_region ?_ | refine g_block ?_ | refine g_ret ?_ | refine g_return_n ?_ | refine g_exit ?_ | refine g_skip ?_)
    exact ret1 (K := []) rfl (resT rfl) ⟨rfl, rfl⟩
end Go.Proofs.Ytdpbjoldgiikkaa
/- An ordered map's functions, for one type of keys and one of values: asked. -/
namespace Go.Proofs.Ytdpbjoldgiikkaa
open Go Go.Sl
attribute [local irreducible] Code.wpIn roundPost bodyPostM runL Ret Meets Begin

theorem GetMapTE_spec (m : Nat) (ys : List PgTE) (k : NumD) (hs : Srt PgTE.cmp ys) (hl : ys.length < 1000000000) : Ctr Try.prog 56 [.pointer (some ⟨m, 0, none⟩), k.val] [MapATE m ys]
    (fun u M => u = .tuple #[PgTE.vval ((getM PgTE.cmp ys ⟨k, PgTE.zero.v⟩).getD PgTE.zero).v, .bool (getM PgTE.cmp ys ⟨k, PgTE.zero.v⟩).isSome] ∧ M = [MapATE m ys]) := by
  refine spec_of Try.func56 rfl Try.ntmps56 rfl fun w0 F => ?_
  repeat (first | refine g_endt ?_ | refine g_end ?_ | refine g_then ?_ | refine g_in_normal ?_ | refine g_then_ret ?_ | refine g_in_ret ?_ | refine g_then_exit ?_ | refine g_in_exit rfl ?_ | refine g_in_exit_ne (by decide) ?_ | refine g_seq ?_ | refine g_region ?_ | refine g_block ?_ | refine g_ret ?_ | refine g_return_n ?_ | refine g_exit ?_ | refine g_skip ?_)
  refine openMTE m ys fun p => ?_
  refine o_alloc fun r0 => ?_
  refine o_assign ?_
  refine g_endt ?_
  repeat (first | refine g_endt ?_ | refine g_end ?_ | refine g_then ?_ | refine g_in_normal ?_ | refine g_then_ret ?_ | refine g_in_ret ?_ | refine g_then_exit ?_ | refine g_in_exit rfl ?_ | refine g_in_exit_ne (by decide) ?_ | refine g_seq ?_ | refine g_region ?_ | refine g_block ?_ | refine g_ret ?_ | refine g_return_n ?_ | refine g_exit ?_ | refine g_skip ?_)
  refine o_move ?_
  refine o_peql rfl ?_
  first | refine g_endt ?_ | refine g_end ?_
  first | refine g_seq (g_cond_f rfl (rfl) ?_) | refine g_cond_f rfl (rfl) ?_
  repeat (first | refine g_endt ?_ | refine g_end ?_ | refine g_then ?_ | refine g_in_normal ?_ | refine g_then_ret ?_ | refine g_in_ret ?_ | refine g_then_exit ?_ | refine g_in_exit rfl ?_ | refine g_in_exit_ne (by decide) ?_ | refine g_seq ?_ | refine g_region ?_ | refine g_block ?_ | refine g_ret ?_ | refine g_return_n ?_ | refine g_exit ?_ | refine g_skip ?_)
  refine g_draw [10, 11] [0,1,2,3,4,5,6,7,8,9,10,11,12] [SetATE p ys, cellsB m #[.pointer (some ⟨p, 0, none⟩)] 98] mixed rfl ?_
  refine ob_q rfl rfl ⟨_, fun X Q h => o_move (g_end (h _ _ ⟨rfl, rfl⟩)), ?_⟩
  refine ob_q rfl rfl ⟨_, fun X Q h => o_nil rfl (g_end (h _ _ ⟨rfl, rfl⟩)), ?_⟩
  refine ob_q rfl rfl ⟨_, fun X Q h => o_field rfl (g_end (h _ _ ⟨rfl, rfl⟩)), ?_⟩
  refine ob_q rfl rfl ⟨_, fun X Q h => o_load1 (v := .pointer (some ⟨p, 0, none⟩)) rfl rfl (g_end (h _ _ ⟨rfl, rfl⟩)), ?_⟩
  refine ob_q rfl rfl ⟨_, fun X Q h => o_move (g_end (h _ _ ⟨rfl, rfl⟩)), ?_⟩
  refine ob_q rfl rfl ⟨_, fun X Q h => o_call (atTE_spec k) rfl rfl <| by rintro _ _ ⟨rfl, rfl⟩; exact (g_end (h _ _ ⟨rfl, rfl⟩)), ?_⟩
  refine ob_q rfl rfl ⟨_, fun X Q h => o_call (GetMTE_spec p ys ⟨k, PgTE.zero.v⟩ hs hl) rfl rfl <| by rintro _ _ ⟨rfl, rfl⟩; exact (g_end (h _ _ ⟨rfl, rfl⟩)), ?_⟩
  refine ob_q rfl rfl ⟨_, fun X Q h => o_move (g_end (h _ _ ⟨rfl, rfl⟩)), ?_⟩
  refine ob_q rfl rfl ⟨_, fun X Q h => o_extract rfl rfl (g_end (h _ _ ⟨rfl, rfl⟩)), ?_⟩
  refine ob_q rfl rfl ⟨_, fun X Q h => o_extract rfl rfl (g_end (h _ _ ⟨rfl, rfl⟩)), ?_⟩
  generalize ho : getM PgTE.cmp ys ⟨k, PgTE.zero.v⟩ = o
  refine ob_l rfl rfl fun Qz hz => o_alloc fun r => g_end (hz _ _ ⟨_, ob_fin, ?_⟩)
  clear hz Qz
  refine ob_l rfl rfl fun Qz hz => o_store (v := (o.getD PgTE.zero).val) rfl rfl rfl rfl rfl <| g_end (hz _ _ ⟨_, ob_fin, ?_⟩)
  clear hz Qz
  refine ob_q rfl rfl ⟨_, fun X Q h => o_assign (g_end (h _ _ ⟨rfl, rfl⟩)), ?_⟩
  refine ob_nil ?_
  refine G.norm r (o.getD PgTE.zero).val.cells rfl ?_
  generalize o.getD PgTE.zero = y
  repeat (first | refine g_endt ?_ | refine g_end ?_ | refine g_then ?_ | refine g_in_normal ?_ | refine g_then_ret ?_ | refine g_in_ret ?_ | refine g_then_exit ?_ | refine g_in_exit rfl ?_ | refine g_in_exit_ne (by decide) ?_ | refine g_seq ?_ | refine g_region ?_ | refine g_block ?_ | refine g_ret ?_ | refine g_return_n ?_ | refine g_exit ?_ | refine g_skip ?_)
  refine o_field rfl ?_
  refine o_loadN (v := y.v.val) rfl rfl rfl ?_
  refine o_move ?_
  refine o_store (v := y.v.val) rfl rfl rfl rfl rfl ?_
  refine o_assign ?_
  refine g_endt ?_
  refine G.norm r0 y.v.val.cells rfl ?_
  refine shutMTE m p ys ?_
  repeat (first | refine g_endt ?_ | refine g_end ?_ | refine g_then ?_ | refine g_in_normal ?_ | refine g_then_ret ?_ | refine g_in_ret ?_ | refine g_then_exit ?_ | refine g_in_exit rfl ?_ | refine g_in_exit_ne (by decide) ?_ | refine g_seq ?_ | refine g_region ?_ | refine g_block ?_ | refine g_ret ?_ | refine g_return_n ?_ | refine g_exit ?_ | refine g_skip ?_)
  exact ret2 (K := [MapATE m ys]) rfl (resCN (v := y.v.val) rfl rfl rfl) (resT rfl) ⟨rfl, rfl⟩
end Go.Proofs.Ytdpbjoldgiikkaa
/- Working memory asked: by Id, by Attr, by tag, for an element: the walks. -/
namespace Go.Proofs.Ytdpbjoldgiikkaa
open Go Go.Sl
attribute [local irreducible] Exit.then Exit.inBlock Code.wpIn roundPost bodyPostM runL Ret Meets MeetsD Begin

/-! ### Plain -/
theorem StI.sort {next : Int} {ts ys : List ElemD} (h : StI next ts ys) : ys = sortE ts :=
  h.srt.ext linElem (sortE_srt' ts) fun z => by
    constructor
    · intro hz
      have hz' := h.perm.mem_iff.1 hz
      have : hasC ElemD.cmp (sortE ts) z = true := by rw [has_sort]; exact List.any_eq_true.2 ⟨z, hz', decide_eq_true (linElem.refl z)⟩
      obtain ⟨y, hy, hc⟩ := List.any_eq_true.1 this
      rw [← h.uniq y (mem_sort y hy) z hz' (of_decide_eq_true hc)]; exact hy
    · exact fun hz => h.perm.mem_iff.2 (mem_sort z hz)
theorem StI.get {next : Int} {ts ys : List ElemD} (h : StI next ts ys) (e : ElemD) : getM ElemD.cmp ys e = getM ElemD.cmp ts e := by
  cases hg : getM ElemD.cmp ts e with
  | none =>
    have h1 := h.has e
    rw [← getM_isSome, ← getM_isSome, hg] at h1
    exact Option.not_isSome_iff_eq_none.1 (by rw [h1]; decide)
  | some o =>
    obtain ⟨h1, h2⟩ := getM_mem hg
    exact getM_of linElem h.srt (h.perm.mem_iff.2 h1) h2
def getT (ts : List ElemD) (t : Int) : Option ElemD := ts.find? fun e => decide (e.tag = t)
theorem getT_map (ts : List ElemD) (t : Int) (v : ElemD) : getM PgTE.cmp (ts.map tgE) ⟨⟨t⟩, v⟩ = (getT ts t).map tgE := by
  unfold getM getT
  rw [List.find?_map]
  congr 2
  funext o
  have : PgTE.cmp (tgE o) ⟨⟨t⟩, v⟩ = 0 ↔ o.tag = t := by
    show NumD.cmp ⟨o.tag⟩ ⟨t⟩ = 0 ↔ _
    rw [NumD.cmp_iff]; simp
  simp only [Function.comp]
  rw [decide_eq_decide]; exact this
/-! ### The walks -/
theorem FindSt_spec (s : Nat) (room next : Int) (ts : List ElemD) (e : ElemD) (hl : ts.length ≤ 10000) {o : Option ElemD} (h : getM ElemD.cmp ts e = o) : Ctr Try.prog 31 [.pointer (some ⟨s, 0, none⟩), e.val] [StP s room next ts]
    (fun v M => v = .tuple #[(o.getD ElemD.zero).val, .bool o.isSome] ∧ M = [StP s room next ts]) := by
  refine spec_of Try.func31 rfl Try.ntmps31 rfl fun w0 F => ?_
  -- hide
  -- (*ponder/mem.Store).Find
  refine openSt s room next ts fun a ys hst => ?_
  have hyl := hst.len
  have hg : getM ElemD.cmp ys e = o := by rw [hst.get, h]
  repeat (first | refine g_endt ?_ | refine g_end ?_ | refine g_then ?_ | refine g_in_normal ?_ | refine g_then_ret ?_ | refine g_in_ret ?_ | refine g_then_exit ?_ | refine g_in_exit rfl ?_ | refine g_in_exit_ne (by decide) ?_ | refine g_seq ?_ | refine g_region ?_ | refine g_block ?_ | refine g_ret ?_ | refine g_return_n ?_ | refine g_exit ?_ | refine g_skip ?_)
  refine g_hideR fun Q_ hQ_ => ?_
  refine o_boxc e.val.cells rfl rfl fun q => ?_
  refine o_alloc fun r => ?_
  refine o_assign ?_
  refine g_end (G.imp (hQ_ .normal _) ?_)
  clear hQ_ Q_
  try refine g_then ?_
  repeat (first | refine g_endt ?_ | refine g_end ?_ | refine g_then ?_ | refine g_in_normal ?_ | refine g_then_ret ?_ | refine g_in_ret ?_ | refine g_then_exit ?_ | refine g_in_exit rfl ?_ | refine g_in_exit_ne (by decide) ?_ | refine g_seq ?_ | refine g_region ?_ | refine g_block ?_ | refine g_ret ?_ | refine g_return_n ?_ | refine g_exit ?_ | refine g_skip ?_)
  refine g_hide fun Q_ hQ_ => ?_
  refine g_draw [5,8] [0,1,2,3,4,5,6,7,8,9] [stC s room next a, cellsB q e.val.cells 25] mixed rfl ?_
  refine ob_q rfl rfl ⟨_, fun X Q h => o_move (g_end (h _ _ ⟨rfl, rfl⟩)), ?_⟩
  refine ob_q rfl rfl ⟨_, fun X Q h => o_nil rfl (g_end (h _ _ ⟨rfl, rfl⟩)), ?_⟩
  first | refine ob_q rfl rfl ⟨_, fun X Q h => o_field rfl (g_end (h _ _ ⟨rfl, rfl⟩)), ?_⟩ | refine ob_q rfl rfl ⟨_, fun X Q h => o_fieldR rfl (by omega) (g_end (h _ _ ⟨rfl, rfl⟩)), ?_⟩
  refine ob_q rfl rfl ⟨_, fun X Q h => o_load1 (v := .pointer (some ⟨a.pa, 0, none⟩)) rfl rfl (g_end (h _ _ ⟨rfl, rfl⟩)), ?_⟩
  refine ob_q rfl rfl ⟨_, fun X Q h => o_loadN (v := e.val) rfl rfl rfl (g_end (h _ _ ⟨rfl, rfl⟩)), ?_⟩
  refine ob_l rfl rfl fun Qz hz => o_call (GetKES_spec a.pa ys e hst.srt (by omega) hg) rfl rfl ?_
  rintro _ _ ⟨rfl, rfl⟩
  refine g_end (hz _ _ ⟨_, ob_fin, ?_⟩)
  clear hz Qz
  refine ob_q rfl rfl ⟨_, fun X Q h => o_extract rfl rfl (g_end (h _ _ ⟨rfl, rfl⟩)), ?_⟩
  refine ob_q rfl rfl ⟨_, fun X Q h => o_extract rfl rfl (g_end (h _ _ ⟨rfl, rfl⟩)), ?_⟩
  refine ob_l rfl rfl fun Qz hz => o_store (v := (o.getD ElemD.zero).val) rfl rfl rfl rfl rfl ?_
  refine g_end (hz _ _ ⟨_, ob_fin, ?_⟩)
  clear hz Qz
  refine ob_q rfl rfl ⟨_, fun X Q h => o_assign (g_end (h _ _ ⟨rfl, rfl⟩)), ?_⟩
  refine ob_nil ?_
  refine G.imp (hQ_ .normal _) ?_
  clear hQ_ Q_
  try refine g_then ?_
  refine G.norm r (o.getD ElemD.zero).val.cells rfl ?_
  refine shutSt s room next ts a ys hst ?_
  repeat (first | refine g_endt ?_ | refine g_end ?_ | refine g_then ?_ | refine g_in_normal ?_ | refine g_then_ret ?_ | refine g_in_ret ?_ | refine g_then_exit ?_ | refine g_in_exit rfl ?_ | refine g_in_exit_ne (by decide) ?_ | refine g_seq ?_ | refine g_region ?_ | refine g_block ?_ | refine g_ret ?_ | refine g_return_n ?_ | refine g_exit ?_ | refine g_skip ?_)
  exact ret2 (K := [StP s room next ts]) rfl (resCN (v := (o.getD ElemD.zero).val) rfl rfl rfl) (resT rfl) ⟨rfl, rfl⟩
theorem GetTMTE_spec (m : Nat) (ts : List ElemD) (t : Int) (hs : Tags ts) (hl : ts.length < 1000000000) {o : Option ElemD} (h : getT ts t = o) : Ctr Try.prog 56 [.pointer (some ⟨m, 0, none⟩), .int .i64 t] [MapATE m (ts.map tgE)]
    (fun u M => u = .tuple #[(o.getD ElemD.zero).val, .bool o.isSome] ∧ M = [MapATE m (ts.map tgE)]) := (GetMapTE_spec m (ts.map tgE) ⟨t⟩ hs.srt (by simpa using hl)).mono fun u M ⟨h1, h2⟩ => by
  rw [h1, getT_map, h]
  exact ⟨by cases o <;> rfl, h2⟩
theorem GetSt_spec (s : Nat) (room next : Int) (ts : List ElemD) (t : Int) (hl : ts.length ≤ 10000) {o : Option ElemD} (h : getT ts t = o) : Ctr Try.prog 32 [.pointer (some ⟨s, 0, none⟩), .int .i64 t] [StP s room next ts]
    (fun v M => v = .tuple #[(o.getD ElemD.zero).val, .bool o.isSome] ∧ M = [StP s room next ts]) := by
  refine spec_of Try.func32 rfl Try.ntmps32 rfl fun w0 F => ?_
  -- hide
  -- (*ponder/mem.Store).Get
  refine openSt s room next ts fun a ys hst => ?_
  repeat (first | refine g_endt ?_ | refine g_end ?_ | refine g_then ?_ | refine g_in_normal ?_ | refine g_then_ret ?_ | refine g_in_ret ?_ | refine g_then_exit ?_ | refine g_in_exit rfl ?_ | refine g_in_exit_ne (by decide) ?_ | refine g_seq ?_ | refine g_region ?_ | refine g_block ?_ | refine g_ret ?_ | refine g_return_n ?_ | refine g_exit ?_ | refine g_skip ?_)
  refine g_hideR fun Q_ hQ_ => ?_
  refine o_alloc fun r => ?_
  refine o_assign ?_
  refine g_end (G.imp (hQ_ .normal _) ?_)
  clear hQ_ Q_
  try refine g_then ?_
  repeat (first | refine g_endt ?_ | refine g_end ?_ | refine g_then ?_ | refine g_in_normal ?_ | refine g_then_ret ?_ | refine g_in_ret ?_ | refine g_then_exit ?_ | refine g_in_exit rfl ?_ | refine g_in_exit_ne (by decide) ?_ | refine g_seq ?_ | refine g_region ?_ | refine g_block ?_ | refine g_ret ?_ | refine g_return_n ?_ | refine g_exit ?_ | refine g_skip ?_)
  refine g_hideR fun Q_ hQ_ => ?_
  refine o_move ?_
  refine o_nil rfl ?_
  first | refine o_field rfl ?_ | refine o_fieldR rfl (by omega) ?_
  refine o_load1 (v := .pointer (some ⟨a.pt, 0, none⟩)) rfl rfl ?_
  refine o_move ?_
  refine o_call (GetTMTE_spec a.pt ts t hst.tags (by omega) h) rfl rfl ?_
  rintro _ _ ⟨rfl, rfl⟩
  refine o_extract rfl rfl ?_
  refine o_extract rfl rfl ?_
  refine o_store (v := (o.getD ElemD.zero).val) rfl rfl rfl rfl rfl ?_
  refine o_assign ?_
  refine g_end (G.imp (hQ_ .normal _) ?_)
  clear hQ_ Q_
  try refine g_then ?_
  refine G.norm r (o.getD ElemD.zero).val.cells rfl ?_
  refine shutSt s room next ts a ys hst ?_
  repeat (first | refine g_endt ?_ | refine g_end ?_ | refine g_then ?_ | refine g_in_normal ?_ | refine g_then_ret ?_ | refine g_in_ret ?_ | refine g_then_exit ?_ | refine g_in_exit rfl ?_ | refine g_in_exit_ne (by decide) ?_ | refine g_seq ?_ | refine g_region ?_ | refine g_block ?_ | refine g_ret ?_ | refine g_return_n ?_ | refine g_exit ?_ | refine g_skip ?_)
  exact ret2 (K := [StP s room next ts]) rfl (resCN (v := (o.getD ElemD.zero).val) rfl rfl rfl) (resT rfl) ⟨rfl, rfl⟩
set_option maxHeartbeats 1000000 in
theorem RGet_spec (r : Nat) (room next : Int) (A : Option Addr) (c : Nat) (ts : List ElemD) (t : Int) (hl : ts.length ≤ 10000) {o : Option ElemD} (h : getT ts t = o) : Ctr Try.prog 33 [.pointer (some ⟨r, 0, none⟩), .int .i64 t] [rfC r room next A ts.length c, psl encE 12 A ts]
    (fun v M => v = .tuple #[(o.getD ElemD.zero).val, .bool o.isSome] ∧ M = []) := by
  refine spec_of Try.func33 rfl Try.ntmps33 rfl fun w0 F => ?_
  -- hide
  -- (*ponder/ponderref10.Store).Get
  repeat (first | refine g_endt ?_ | refine g_end ?_ | refine g_then ?_ | refine g_in_normal ?_ | refine g_then_ret ?_ | refine g_in_ret ?_ | refine g_then_exit ?_ | refine g_in_exit rfl ?_ | refine g_in_exit_ne (by decide) ?_ | refine g_seq ?_ | refine g_region ?_ | refine g_block ?_ | refine g_ret ?_ | refine g_return_n ?_ | refine g_exit ?_ | refine g_skip ?_)
  refine g_hideR fun Q_ hQ_ => ?_
  refine o_alloc fun q => ?_
  refine o_assign ?_
  refine g_end (G.imp (hQ_ .normal _) ?_)
  clear hQ_ Q_
  try refine g_then ?_
  refine G.norm q ElemD.zero.val.cells rfl ?_
  repeat (first | refine g_endt ?_ | refine g_end ?_ | refine g_then ?_ | refine g_in_normal ?_ | refine g_then_ret ?_ | refine g_in_ret ?_ | refine g_then_exit ?_ | refine g_in_exit rfl ?_ | refine g_in_exit_ne (by decide) ?_ | refine g_seq ?_ | refine g_region ?_ | refine g_block ?_ | refine g_ret ?_ | refine g_return_n ?_ | refine g_exit ?_ | refine g_skip ?_)
  refine g_hideR fun Q_ hQ_ => ?_
  refine o_assign ?_
  refine g_end (G.imp (hQ_ .normal _) ?_)
  clear hQ_ Q_
  try refine g_then ?_
  repeat (first | refine g_endt ?_ | refine g_end ?_ | refine g_then ?_ | refine g_in_normal ?_ | refine g_then_ret ?_ | refine g_in_ret ?_ | refine g_then_exit ?_ | refine g_in_exit rfl ?_ | refine g_in_exit_ne (by decide) ?_ | refine g_seq ?_ | refine g_region ?_ | refine g_block ?_ | refine g_ret ?_ | refine g_return_n ?_ | refine g_exit ?_ | refine g_skip ?_)
  refine g_loop (σ := {i : Nat // i ≤ ts.length ∧ getT (ts.take i) t = none}) (S := fun i => [(0, .pointer (some ⟨r, 0, none⟩)), (1, .int .i64 t), (4, .pointer (some ⟨q, 0, none⟩)), (6, .int .i64 (i.1 : Int))]) (H := fun _ => [rfC r room next A ts.length c, psl encE 12 A ts, cellsB q ElemD.zero.val.cells 25]) (μ := fun i => ts.length - i.1) (s0 := ⟨0, Nat.zero_le _, rfl⟩) (Sat.mem ⟨rfl, rfl, rfl, rfl, trivial⟩) ?_
  rintro ⟨i, hi, hno⟩ ρ'
  dsimp only at hi hno ⊢
  repeat (first | refine g_endt ?_ | refine g_end ?_ | refine g_then ?_ | refine g_in_normal ?_ | refine g_then_ret ?_ | refine g_in_ret ?_ | refine g_then_exit ?_ | refine g_in_exit rfl ?_ | refine g_in_exit_ne (by decide) ?_ | refine g_seq ?_ | refine g_region ?_ | refine g_block ?_ | refine g_ret ?_ | refine g_return_n ?_ | refine g_exit ?_ | refine g_skip ?_)
  refine g_hideR fun Q_ hQ_ => ?_
  refine o_move ?_
  refine o_move ?_
  refine o_nil rfl ?_
  first | refine o_field rfl ?_ | refine o_fieldR rfl (by omega) ?_
  refine o_load1 (v := .slice A ts.length c) rfl rfl ?_
  refine o_len rfl rfl ?_
  refine o_lss rfl rfl ?_
  refine g_end (G.imp (hQ_ .normal _) ?_)
  clear hQ_ Q_
  try refine g_then ?_
  by_cases hin : i < ts.length
  · first | refine g_seq (g_cond_t rfl (by first | rfl | (simp; done) | (simp; omega) | (simp; assumption)) ?_) | refine g_cond_t rfl (by first | rfl | (simp; done) | (simp; omega) | (simp; assumption)) ?_
    obtain ⟨e, he⟩ : ∃ e, ts[i]? = some e := ⟨_, List.getElem?_eq_getElem hin⟩
    have hsp : ts = ts.take i ++ e :: ts.drop (i + 1) := by
      conv => lhs; rw [← List.take_append_drop i ts]
      congr 1
      rw [List.drop_eq_getElem_cons hin]
      congr 1
      rw [List.getElem?_eq_getElem hin] at he
      exact Option.some.inj he
    repeat (first | refine g_endt ?_ | refine g_end ?_ | refine g_then ?_ | refine g_in_normal ?_ | refine g_then_ret ?_ | refine g_in_ret ?_ | refine g_then_exit ?_ | refine g_in_exit rfl ?_ | refine g_in_exit_ne (by decide) ?_ | refine g_seq ?_ | refine g_region ?_ | refine g_block ?_ | refine g_ret ?_ | refine g_return_n ?_ | refine g_exit ?_ | refine g_skip ?_)
    refine g_hideR fun Q_ hQ_ => ?_
    refine o_move ?_
    refine o_nil rfl ?_
    first | refine o_field rfl ?_ | refine o_fieldR rfl (by omega) ?_
    refine o_load1 (v := .slice A ts.length c) rfl rfl ?_
    refine o_move ?_
    refine o_indexR (ys := ts) (i := i) rfl rfl rfl hin rfl rfl ?_
    refine o_fieldR (ys := ts) rfl (by omega) ?_
    refine o_loadE1 (off := 11) (ys := ts) (v := .int .i64 e.tag) rfl he rfl ?_
    refine o_move ?_
    refine o_eql rfl rfl ?_
    refine g_end (G.imp (hQ_ .normal _) ?_)
    clear hQ_ Q_
    try refine g_then ?_
    by_cases ht : e.tag = t
    · first | refine g_seq (g_cond_t rfl (by simpa using ht) ?_) | refine g_cond_t rfl (by simpa using ht) ?_
      have ho : o = some e := by
        rw [← h, hsp]
        unfold getT at hno ⊢
        rw [List.find?_append, hno, List.find?_cons, decide_eq_true ht]
        rfl
      subst ho
      repeat (first | refine g_endt ?_ | refine g_end ?_ | refine g_then ?_ | refine g_in_normal ?_ | refine g_then_ret ?_ | refine g_in_ret ?_ | refine g_then_exit ?_ | refine g_in_exit rfl ?_ | refine g_in_exit_ne (by decide) ?_ | refine g_seq ?_ | refine g_region ?_ | refine g_block ?_ | refine g_ret ?_ | refine g_return_n ?_ | refine g_exit ?_ | refine g_skip ?_)
      refine g_hideR fun Q_ hQ_ => ?_
      refine o_move ?_
      refine o_nil rfl ?_
      first | refine o_field rfl ?_ | refine o_fieldR rfl (by omega) ?_
      refine o_load1 (v := .slice A ts.length c) rfl rfl ?_
      refine o_move ?_
      refine o_indexR (ys := ts) (i := i) rfl rfl rfl hin rfl rfl ?_
      refine o_loadE (ys := ts) rfl rfl he ?_
      refine o_store (v := .agg (encE e).toArray) rfl rfl rfl rfl rfl ?_
      refine o_assign ?_
      refine g_end (G.imp (hQ_ .normal _) ?_)
      clear hQ_ Q_
      try refine g_then ?_
      refine G.norm q e.val.cells rfl ?_
      repeat (first | refine g_endt ?_ | refine g_end ?_ | refine g_then ?_ | refine g_in_normal ?_ | refine g_then_ret ?_ | refine g_in_ret ?_ | refine g_then_exit ?_ | refine g_in_exit rfl ?_ | refine g_in_exit_ne (by decide) ?_ | refine g_seq ?_ | refine g_region ?_ | refine g_block ?_ | refine g_ret ?_ | refine g_return_n ?_ | refine g_exit ?_ | refine g_skip ?_)
      exact ret2 (K := []) rfl (resCN (v := e.val) rfl rfl rfl) (resT rfl) ⟨rfl, rfl⟩
    · first | refine g_seq (g_cond_f rfl (by simpa using ht) ?_) | refine g_cond_f rfl (by simpa using ht) ?_
      repeat (first | refine g_endt ?_ | refine g_end ?_ | refine g_then ?_ | refine g_in_normal ?_ | refine g_then_ret ?_ | refine g_in_ret ?_ | refine g_then_exit ?_ | refine g_in_exit rfl ?_ | refine g_in_exit_ne (by decide) ?_ | refine g_seq ?_ | refine g_region ?_ | refine g_block ?_ | refine g_ret ?_ | refine g_return_n ?_ | refine g_exit ?_ | refine g_skip ?_)
      repeat (first | refine g_endt ?_ | refine g_end ?_ | refine g_then ?_ | refine g_in_normal ?_ | refine g_then_ret ?_ | refine g_in_ret ?_ | refine g_then_exit ?_ | refine g_in_exit rfl ?_ | refine g_in_exit_ne (by decide) ?_ | refine g_seq ?_ | refine g_region ?_ | refine g_block ?_ | refine g_ret ?_ | refine g_return_n ?_ | refine g_exit ?_ | refine g_skip ?_)
      refine g_hideR fun Q_ hQ_ => ?_
      refine o_move ?_
      refine o_add (c := ((i + 1 : Nat) : Int)) rfl rfl (by omega) (by omega) (by omega) ?_
      refine o_assign ?_
      refine g_end (G.imp (hQ_ .normal _) ?_)
      clear hQ_ Q_
      try refine g_then ?_
      repeat (first | refine g_endt ?_ | refine g_end ?_ | refine g_then ?_ | refine g_in_normal ?_ | refine g_then_ret ?_ | refine g_in_ret ?_ | refine g_then_exit ?_ | refine g_in_exit rfl ?_ | refine g_in_exit_ne (by decide) ?_ | refine g_seq ?_ | refine g_region ?_ | refine g_block ?_ | refine g_ret ?_ | refine g_return_n ?_ | refine g_exit ?_ | refine g_skip ?_)
      have hn : getT (ts.take (i + 1)) t = none := by
        unfold getT at hno ⊢
        rw [List.take_add_one, he, List.find?_append, hno]
        simp [ht]
      exact g_meets ⟨i + 1, hin, hn⟩ (by show ts.length - (i + 1) < ts.length - i; omega) (Sat.mem ⟨rfl, rfl, rfl, rfl, trivial⟩)
  · first | refine g_seq (g_cond_f rfl (by simp; omega) ?_) | refine g_cond_f rfl (by simp; omega) ?_
    have ho : o = none := by rw [← h]; rw [List.take_of_length_le (by omega)] at hno; exact hno
    subst ho
    repeat (first | refine g_endt ?_ | refine g_end ?_ | refine g_then ?_ | refine g_in_normal ?_ | refine g_then_ret ?_ | refine g_in_ret ?_ | refine g_then_exit ?_ | refine g_in_exit rfl ?_ | refine g_in_exit_ne (by decide) ?_ | refine g_seq ?_ | refine g_region ?_ | refine g_block ?_ | refine g_ret ?_ | refine g_return_n ?_ | refine g_exit ?_ | refine g_skip ?_)
    refine g_hideR fun Q_ hQ_ => ?_
    refine o_build (ElemD.zero.val) (fun w => by kernel_rfl) ?_
    refine o_store (v := ElemD.zero.val) rfl rfl rfl rfl rfl ?_
    refine o_assign ?_
    refine g_end (G.imp (hQ_ .normal _) ?_)
    clear hQ_ Q_
    try refine g_then ?_
    refine G.norm q ElemD.zero.val.cells rfl ?_
    repeat (first | refine g_endt ?_ | refine g_end ?_ | refine g_then ?_ | refine g_in_normal ?_ | refine g_then_ret ?_ | refine g_in_ret ?_ | refine g_then_exit ?_ | refine g_in_exit rfl ?_ | refine g_in_exit_ne (by decide) ?_ | refine g_seq ?_ | refine g_region ?_ | refine g_block ?_ | refine g_ret ?_ | refine g_return_n ?_ | refine g_exit ?_ | refine g_skip ?_)
    exact ret2 (K := []) rfl (resCN (v := ElemD.zero.val) rfl rfl rfl) (resT rfl) ⟨rfl, rfl⟩
/-! ### Those of an index -/
abbrev pM (b m : Nat) : SProp := pblk b (.cells #[.pointer (some ⟨m, 0, none⟩)] 71 (0, 0))
abbrev pK (b : Nat) (k : SymD) : SProp := pblk b (.cells k.cells.toArray 23 (0, 0))
theorem IdxP_of (m : Nat) (f : ElemD → SymD) (ys : List ElemD) (zs us : List PgSE) (k : SymD) (b : Nat) (hi : IdxI zs f ys) (hp : zs.Perm (⟨k, some b⟩ :: us)) {L M : List SProp} [tk : Take1 L (IdxP m f ys) M] : Ent (sl (SetAES b (keyD f ys k) :: bigS us (cellI f ys) :: MapASE m zs :: M)) (sl L) := by
  refine Ent.trans ?_ (sl_perm tk.perm.symm)
  refine (sl_append_to [SetAES b (keyD f ys k), bigS us (cellI f ys), MapASE m zs] M).trans (Ent.star ?_ (Ent.refl _))
  refine (show Ent (sl [SetAES b (keyD f ys k), bigS us (cellI f ys), MapASE m zs]) (sl [MapASE m zs, bigS zs (cellI f ys)]) from ?_).trans fun B h x => ⟨zs, hnil, h, (Dj.nil _).symm, .nil _, .refl _, hi, x⟩
  refine (Ent.assoc' (SetAES b (keyD f ys k)) (bigS us (cellI f ys)) (sl [MapASE m zs])).trans ?_
  refine (Ent.star (bigS_perm hp.symm (cellI f ys)) (Ent.refl _)).trans ?_
  exact sl_perm (List.Perm.swap (MapASE m zs) (bigS zs (cellI f ys)) [])
end Go.Proofs.Ytdpbjoldgiikkaa
/- Those of an index, told in order: the walks. -/
namespace Go.Proofs.Ytdpbjoldgiikkaa
open Go Go.Sl
attribute [local irreducible] Exit.then Exit.inBlock Code.wpIn roundPost bodyPostM runL Ret Meets MeetsD Begin

theorem IdxP_back (m : Nat) (f : ElemD → SymD) (ys : List ElemD) (zs : List PgSE) (hi : IdxI zs f ys) {L M : List SProp} [tk : Take1 L (IdxP m f ys) M] : Ent (sl (MapASE m zs :: bigS zs (cellI f ys) :: M)) (sl L) := by
  refine Ent.trans ?_ (sl_perm tk.perm.symm)
  refine (sl_append_to [MapASE m zs, bigS zs (cellI f ys)] M).trans (Ent.star ?_ (Ent.refl _))
  exact fun B h x => ⟨zs, hnil, h, (Dj.nil _).symm, .nil _, .refl _, hi, x⟩
set_option maxHeartbeats 1000000 in
theorem those_iter (m b1 b2 : Nat) (f : ElemD → SymD) (ys : List ElemD) (k : SymD) (hl : ys.length ≤ 100000) (J0 : List SProp) {M : List SProp} [tk : Take1 J0 (IdxP m f ys) M] [HasP J0 (pM b1 m)] [HasP J0 (pK b2 k)] :
    Iter Try.prog 76 [.pointer (some ⟨b1, 0, none⟩), .pointer (some ⟨b2, 0, none⟩)] encVE (keyD f ys k) J0 := by
  intro l J Jx hJ hy
  subst hJ
  refine spec_of Try.func76 rfl Try.ntmps76 rfl fun w0 F => ?_
  -- hide
  -- ponder/mem.those$1
  have hkl := keyD_len f ys k
  refine G.dup (pM b1 m) ?_
  refine G.dup (pK b2 k) ?_
  repeat (first | refine g_endt ?_ | refine g_end ?_ | refine g_then ?_ | refine g_in_normal ?_ | refine g_then_ret ?_ | refine g_in_ret ?_ | refine g_then_exit ?_ | refine g_in_exit rfl ?_ | refine g_in_exit_ne (by decide) ?_ | refine g_seq ?_ | refine g_region ?_ | refine g_block ?_ | refine g_ret ?_ | refine g_return_n ?_ | refine g_exit ?_ | refine g_skip ?_)
  refine g_hideR fun Q_ hQ_ => ?_
  refine o_boxc #[.func (.yield l) #[] #[]] rfl rfl fun q => ?_
  refine g_end (G.imp (hQ_ .normal _) ?_)
  clear hQ_ Q_
  try refine g_then ?_
  refine openI m f ys fun zs hw => ?_
  have hzl := hw.len
  cases hg : getM PgSE.cmp zs ⟨k, none⟩ with
  | none =>
    have hnone : keyD f ys k = [] := keyD_none fun x hx r => by
      have := (hw.has k).2 ⟨x, hx, r⟩
      rw [← getM_isSome, hg] at this; cases this
    repeat (first | refine g_endt ?_ | refine g_end ?_ | refine g_then ?_ | refine g_in_normal ?_ | refine g_then_ret ?_ | refine g_in_ret ?_ | refine g_then_exit ?_ | refine g_in_exit rfl ?_ | refine g_in_exit_ne (by decide) ?_ | refine g_seq ?_ | refine g_region ?_ | refine g_block ?_ | refine g_ret ?_ | refine g_return_n ?_ | refine g_exit ?_ | refine g_skip ?_)
    refine g_hideR fun Q_ hQ_ => ?_
    refine o_load1 (v := .pointer (some ⟨m, 0, none⟩)) rfl rfl ?_
    refine o_loadN (v := k.val) rfl rfl rfl ?_
    refine o_call (GetNMSE_spec m zs k hw.srt (by omega) hg) rfl rfl ?_
    rintro _ _ ⟨rfl, rfl⟩
    refine o_move ?_
    refine o_extract rfl rfl ?_
    refine o_extract rfl rfl ?_
    refine o_assign ?_
    refine o_assign ?_
    refine g_end (G.imp (hQ_ .normal _) ?_)
    clear hQ_ Q_
    try refine g_then ?_
    repeat (first | refine g_endt ?_ | refine g_end ?_ | refine g_then ?_ | refine g_in_normal ?_ | refine g_then_ret ?_ | refine g_in_ret ?_ | refine g_then_exit ?_ | refine g_in_exit rfl ?_ | refine g_in_exit_ne (by decide) ?_ | refine g_seq ?_ | refine g_region ?_ | refine g_block ?_ | refine g_ret ?_ | refine g_return_n ?_ | refine g_exit ?_ | refine g_skip ?_)
    refine g_hideR fun Q_ hQ_ => ?_
    refine o_move ?_
    refine o_not rfl ?_
    refine g_end (G.imp (hQ_ .normal _) ?_)
    clear hQ_ Q_
    try refine g_then ?_
    first | refine g_seq (g_cond_t rfl (by first | rfl | (simp; done) | (simp; omega) | (simp; assumption)) ?_) | refine g_cond_t rfl (by first | rfl | (simp; done) | (simp; omega) | (simp; assumption)) ?_
    refine G.bring (MapASE m zs :: bigS zs (cellI f ys) :: M) ?_
    refine G.ent (L' := J [] ++ _) ((sl_append_to (MapASE m zs :: bigS zs (cellI f ys) :: M) _).trans ((Ent.star (IdxP_back m f ys zs hw) (Ent.refl _)).trans (sl_append_of (J []) _))) ?_
    repeat (first | refine g_endt ?_ | refine g_end ?_ | refine g_then ?_ | refine g_in_normal ?_ | refine g_then_ret ?_ | refine g_in_ret ?_ | refine g_then_exit ?_ | refine g_in_exit rfl ?_ | refine g_in_exit_ne (by decide) ?_ | refine g_seq ?_ | refine g_region ?_ | refine g_block ?_ | refine g_ret ?_ | refine g_return_n ?_ | refine g_exit ?_ | refine g_skip ?_)
    exact ret0 (K := J []) rfl (.inl (by rw [hnone]))
  | some p =>
    obtain ⟨b, us, rfl, hperm, hne, _⟩ := hw.get hg
    have hO : Ent (sl (SetAES b (keyD f ys k) :: bigS us (cellI f ys) :: MapASE m zs :: M)) (sl (J [])) := IdxP_of m f ys zs us k b hw hperm
    repeat (first | refine g_endt ?_ | refine g_end ?_ | refine g_then ?_ | refine g_in_normal ?_ | refine g_then_ret ?_ | refine g_in_ret ?_ | refine g_then_exit ?_ | refine g_in_exit rfl ?_ | refine g_in_exit_ne (by decide) ?_ | refine g_seq ?_ | refine g_region ?_ | refine g_block ?_ | refine g_ret ?_ | refine g_return_n ?_ | refine g_exit ?_ | refine g_skip ?_)
    refine g_hideR fun Q_ hQ_ => ?_
    refine o_load1 (v := .pointer (some ⟨m, 0, none⟩)) rfl rfl ?_
    refine o_loadN (v := k.val) rfl rfl rfl ?_
    refine o_call (GetNMSE_spec m zs k hw.srt (by omega) hg) rfl rfl ?_
    rintro _ _ ⟨rfl, rfl⟩
    refine o_move ?_
    refine o_extract rfl rfl ?_
    refine o_extract rfl rfl ?_
    refine o_assign ?_
    refine o_assign ?_
    refine g_end (G.imp (hQ_ .normal _) ?_)
    clear hQ_ Q_
    try refine g_then ?_
    repeat (first | refine g_endt ?_ | refine g_end ?_ | refine g_then ?_ | refine g_in_normal ?_ | refine g_then_ret ?_ | refine g_in_ret ?_ | refine g_then_exit ?_ | refine g_in_exit rfl ?_ | refine g_in_exit_ne (by decide) ?_ | refine g_seq ?_ | refine g_region ?_ | refine g_block ?_ | refine g_ret ?_ | refine g_return_n ?_ | refine g_exit ?_ | refine g_skip ?_)
    refine g_hideR fun Q_ hQ_ => ?_
    refine o_move ?_
    refine o_not rfl ?_
    refine g_end (G.imp (hQ_ .normal _) ?_)
    clear hQ_ Q_
    try refine g_then ?_
    first | refine g_seq (g_cond_f rfl (by first | rfl | (simp; done) | (simp; omega) | (simp; assumption)) ?_) | refine g_cond_f rfl (by first | rfl | (simp; done) | (simp; omega) | (simp; assumption)) ?_
    refine G.bopen (f := cellI f ys) ⟨k, some b⟩ us hperm ?_
    change G _ _ (SetAES b (keyD f ys k) :: _) _
    repeat (first | refine g_endt ?_ | refine g_end ?_ | refine g_then ?_ | refine g_in_normal ?_ | refine g_then_ret ?_ | refine g_in_ret ?_ | refine g_then_exit ?_ | refine g_in_exit rfl ?_ | refine g_in_exit_ne (by decide) ?_ | refine g_seq ?_ | refine g_region ?_ | refine g_block ?_ | refine g_ret ?_ | refine g_return_n ?_ | refine g_exit ?_ | refine g_skip ?_)
    refine g_hideR fun Q_ hQ_ => ?_
    refine o_move ?_
    refine o_call (AllES_spec b) rfl rfl ?_
    rintro _ _ ⟨b3, rfl, rfl⟩
    refine g_end (G.imp (hQ_ .normal _) ?_)
    clear hQ_ Q_
    try refine g_then ?_
    repeat (first | refine g_endt ?_ | refine g_end ?_ | refine g_then ?_ | refine g_in_normal ?_ | refine g_then_ret ?_ | refine g_in_ret ?_ | refine g_then_exit ?_ | refine g_in_exit rfl ?_ | refine g_in_exit_ne (by decide) ?_ | refine g_seq ?_ | refine g_region ?_ | refine g_block ?_ | refine g_ret ?_ | refine g_return_n ?_ | refine g_exit ?_ | refine g_skip ?_)
    refine g_range (ps := [17]) (lb := [.pointer (some ⟨b3, 0, none⟩)]) (enc := ElemD.enc') (xs := keyD f ys k) rfl
      (fun pre => cellsB q #[.func (.yield l) #[] #[]] 36 :: pE b3 b :: Jin (SetAES b (keyD f ys k) :: bigS us (cellI f ys) :: MapASE m zs :: M) J pre)
      (fun c pre => pu (c = .ret) :: Jx pre)
      (fun K => All1ES_iter b b3 (keyD f ys k) (by omega) (K :: cellsB q #[.func (.yield l) #[] #[]] 36 :: pE b3 b :: SetAES b (keyD f ys k) :: bigS us (cellI f ys) :: MapASE m zs :: M))
      (fun _ => rfl) (tk := (inferInstance : Take _ (cellsB q #[.func (.yield l) #[] #[]] 36 :: pE b3 b :: SetAES b (keyD f ys k) :: bigS us (cellI f ys) :: MapASE m zs :: M) _)) ?_ ?_ ?_
    · intro w0 F l' r pre x hp
      refine G.ent (L' := cellsB q #[.func (.yield l) #[] #[]] 36 :: pE b3 b :: J pre) ((Ent.refl _).star ((Ent.refl _).star (Jin_ent hO pre))) ?_
      repeat (first | refine g_endt ?_ | refine g_end ?_ | refine g_then ?_ | refine g_in_normal ?_ | refine g_then_ret ?_ | refine g_in_ret ?_ | refine g_then_exit ?_ | refine g_in_exit rfl ?_ | refine g_in_exit_ne (by decide) ?_ | refine g_seq ?_ | refine g_region ?_ | refine g_block ?_ | refine g_ret ?_ | refine g_return_n ?_ | refine g_exit ?_ | refine g_skip ?_)
      refine g_hideR fun Q_ hQ_ => ?_
      refine o_alloc fun c => ?_
      refine o_store (v := x.val) rfl rfl rfl rfl rfl ?_
      refine g_end (G.imp (hQ_ .normal _) ?_)
      clear hQ_ Q_
      try refine g_then ?_
      refine G.norm c x.val.cells rfl ?_
      repeat (first | refine g_endt ?_ | refine g_end ?_ | refine g_then ?_ | refine g_in_normal ?_ | refine g_then_ret ?_ | refine g_in_ret ?_ | refine g_then_exit ?_ | refine g_in_exit rfl ?_ | refine g_in_exit_ne (by decide) ?_ | refine g_seq ?_ | refine g_region ?_ | refine g_block ?_ | refine g_ret ?_ | refine g_return_n ?_ | refine g_exit ?_ | refine g_skip ?_)
      refine g_begin ?_
      repeat (first | refine g_endt ?_ | refine g_end ?_ | refine g_then ?_ | refine g_in_normal ?_ | refine g_then_ret ?_ | refine g_in_ret ?_ | refine g_then_exit ?_ | refine g_in_exit rfl ?_ | refine g_in_exit_ne (by decide) ?_ | refine g_seq ?_ | refine g_region ?_ | refine g_block ?_ | refine g_ret ?_ | refine g_return_n ?_ | refine g_exit ?_ | refine g_skip ?_)
      refine o_load1 (v := .func (.yield l) #[] #[]) rfl rfl ?_
      refine o_loadN (v := x.val) rfl rfl rfl ?_
      refine o_yield (hy pre x hp) rfl rfl ?_ ?_
      · refine o_not rfl ?_
        refine g_endt ?_
        first | refine g_seq (g_cond_f rfl (rfl) ?_) | refine g_cond_f rfl (rfl) ?_
        repeat (first | refine g_endt ?_ | refine g_end ?_ | refine g_then ?_ | refine g_in_normal ?_ | refine g_then_ret ?_ | refine g_in_ret ?_ | refine g_then_exit ?_ | refine g_in_exit rfl ?_ | refine g_in_exit_ne (by decide) ?_ | refine g_seq ?_ | refine g_region ?_ | refine g_block ?_ | refine g_ret ?_ | refine g_return_n ?_ | refine g_exit ?_ | refine g_skip ?_)
        exact g_next (tk := by rw [Jin_snoc]; infer_instance)
      · refine o_not rfl ?_
        refine g_endt ?_
        first | refine g_seq (g_cond_t rfl (rfl) ?_) | refine g_cond_t rfl (rfl) ?_
        repeat (first | refine g_endt ?_ | refine g_end ?_ | refine g_then ?_ | refine g_in_normal ?_ | refine g_then_ret ?_ | refine g_in_ret ?_ | refine g_then_exit ?_ | refine g_in_exit rfl ?_ | refine g_in_exit_ne (by decide) ?_ | refine g_seq ?_ | refine g_region ?_ | refine g_block ?_ | refine g_ret ?_ | refine g_return_n ?_ | refine g_exit ?_ | refine g_skip ?_)
        refine G.pu_in (q := Code.ret = Code.ret) rfl ?_
        exact g_leave_ret
    · intro D
      refine G.ent (L' := cellsB q #[.func (.yield l) #[] #[]] 36 :: pE b3 b :: J (keyD f ys k)) ((Ent.refl _).star ((Ent.refl _).star (Jin_ent hO (keyD f ys k)))) ?_
      repeat (first | refine g_endt ?_ | refine g_end ?_ | refine g_then ?_ | refine g_in_normal ?_ | refine g_then_ret ?_ | refine g_in_ret ?_ | refine g_then_exit ?_ | refine g_in_exit rfl ?_ | refine g_in_exit_ne (by decide) ?_ | refine g_seq ?_ | refine g_region ?_ | refine g_block ?_ | refine g_ret ?_ | refine g_return_n ?_ | refine g_exit ?_ | refine g_skip ?_)
      exact ret0 (K := J (keyD f ys k)) rfl (.inl rfl)
    · intro D c pre hp
      refine G.pu fun h => ?_
      subst h
      repeat (first | refine g_endt ?_ | refine g_end ?_ | refine g_then ?_ | refine g_in_normal ?_ | refine g_then_ret ?_ | refine g_in_ret ?_ | refine g_then_exit ?_ | refine g_in_exit rfl ?_ | refine g_in_exit_ne (by decide) ?_ | refine g_seq ?_ | refine g_region ?_ | refine g_block ?_ | refine g_ret ?_ | refine g_return_n ?_ | refine g_exit ?_ | refine g_skip ?_)
      exact ret0 (K := Jx pre) rfl (.inr ⟨pre, hp, rfl⟩)
theorem thoseC_spec (m : Nat) (k : SymD) : Ctr Try.prog 57 [.pointer (some ⟨m, 0, none⟩), k.val] []
    (fun v M => ∃ b1 b2, v = .func (.func 76) #[] #[.pointer (some ⟨b1, 0, none⟩), .pointer (some ⟨b2, 0, none⟩)] ∧ M = [pM b1 m, pK b2 k]) := by
  refine spec_of Try.func57 rfl Try.ntmps57 rfl fun w0 F => ?_
  -- hide
  -- ponder/mem.those
  repeat (first | refine g_endt ?_ | refine g_end ?_ | refine g_then ?_ | refine g_in_normal ?_ | refine g_then_ret ?_ | refine g_in_ret ?_ | refine g_then_exit ?_ | refine g_in_exit rfl ?_ | refine g_in_exit_ne (by decide) ?_ | refine g_seq ?_ | refine g_region ?_ | refine g_block ?_ | refine g_ret ?_ | refine g_return_n ?_ | refine g_exit ?_ | refine g_skip ?_)
  refine g_hideR fun Q_ hQ_ => ?_
  refine o_boxc #[.pointer (some ⟨m, 0, none⟩)] rfl rfl fun b1 => ?_
  refine G.freeze ?_
  refine o_boxc k.cells.toArray rfl rfl fun b2 => ?_
  refine G.freeze ?_
  refine o_assign ?_
  refine g_end (G.imp (hQ_ .normal _) ?_)
  clear hQ_ Q_
  try refine g_then ?_
  repeat (first | refine g_endt ?_ | refine g_end ?_ | refine g_then ?_ | refine g_in_normal ?_ | refine g_then_ret ?_ | refine g_in_ret ?_ | refine g_then_exit ?_ | refine g_in_exit rfl ?_ | refine g_in_exit_ne (by decide) ?_ | refine g_seq ?_ | refine g_region ?_ | refine g_block ?_ | refine g_ret ?_ | refine g_return_n ?_ | refine g_exit ?_ | refine g_skip ?_)
  refine g_hideR fun Q_ hQ_ => ?_
  refine o_func ?_
  refine o_assign ?_
  refine g_end (G.imp (hQ_ .normal _) ?_)
  clear hQ_ Q_
  try refine g_then ?_
  repeat (first | refine g_endt ?_ | refine g_end ?_ | refine g_then ?_ | refine g_in_normal ?_ | refine g_then_ret ?_ | refine g_in_ret ?_ | refine g_then_exit ?_ | refine g_in_exit rfl ?_ | refine g_in_exit_ne (by decide) ?_ | refine g_seq ?_ | refine g_region ?_ | refine g_block ?_ | refine g_ret ?_ | refine g_return_n ?_ | refine g_exit ?_ | refine g_skip ?_)
  exact ret1 (K := [pM b1 m, pK b2 k]) rfl (resT rfl) ⟨b1, b2, rfl, rfl⟩
theorem OfSt_spec (s : Nat) (room next : Int) (a : StA) (k : SymD) : Ctr Try.prog 34 [.pointer (some ⟨s, 0, none⟩), k.val] [stC s room next a]
    (fun v M => ∃ b1 b2, v = .func (.func 76) #[] #[.pointer (some ⟨b1, 0, none⟩), .pointer (some ⟨b2, 0, none⟩)] ∧ M = [pM b1 a.pi, pK b2 k, stC s room next a]) := by
  refine spec_of Try.func34 rfl Try.ntmps34 rfl fun w0 F => ?_
  -- hide
  -- (*ponder/mem.Store).Of
  repeat (first | refine g_endt ?_ | refine g_end ?_ | refine g_then ?_ | refine g_in_normal ?_ | refine g_then_ret ?_ | refine g_in_ret ?_ | refine g_then_exit ?_ | refine g_in_exit rfl ?_ | refine g_in_exit_ne (by decide) ?_ | refine g_seq ?_ | refine g_region ?_ | refine g_block ?_ | refine g_ret ?_ | refine g_return_n ?_ | refine g_exit ?_ | refine g_skip ?_)
  refine g_hideR fun Q_ hQ_ => ?_
  refine o_boxc k.cells.toArray rfl rfl fun q => ?_
  refine o_assign ?_
  refine g_end (G.imp (hQ_ .normal _) ?_)
  clear hQ_ Q_
  try refine g_then ?_
  repeat (first | refine g_endt ?_ | refine g_end ?_ | refine g_then ?_ | refine g_in_normal ?_ | refine g_then_ret ?_ | refine g_in_ret ?_ | refine g_then_exit ?_ | refine g_in_exit rfl ?_ | refine g_in_exit_ne (by decide) ?_ | refine g_seq ?_ | refine g_region ?_ | refine g_block ?_ | refine g_ret ?_ | refine g_return_n ?_ | refine g_exit ?_ | refine g_skip ?_)
  refine g_hide fun Q_ hQ_ => ?_
  refine g_draw [5] [0,1,2,3,4,5,6] [stC s room next a, cellsB q k.cells.toArray 23] mixed rfl ?_
  refine ob_q rfl rfl ⟨_, fun X Q h => o_move (g_end (h _ _ ⟨rfl, rfl⟩)), ?_⟩
  refine ob_q rfl rfl ⟨_, fun X Q h => o_nil rfl (g_end (h _ _ ⟨rfl, rfl⟩)), ?_⟩
  first | refine ob_q rfl rfl ⟨_, fun X Q h => o_field rfl (g_end (h _ _ ⟨rfl, rfl⟩)), ?_⟩ | refine ob_q rfl rfl ⟨_, fun X Q h => o_fieldR rfl (by omega) (g_end (h _ _ ⟨rfl, rfl⟩)), ?_⟩
  refine ob_q rfl rfl ⟨_, fun X Q h => o_load1 (v := .pointer (some ⟨a.pi, 0, none⟩)) rfl rfl (g_end (h _ _ ⟨rfl, rfl⟩)), ?_⟩
  refine ob_q rfl rfl ⟨_, fun X Q h => o_loadN (v := k.val) rfl rfl rfl (g_end (h _ _ ⟨rfl, rfl⟩)), ?_⟩
  refine ob_l rfl rfl fun Qz hz => o_call (thoseC_spec a.pi k) rfl rfl ?_
  rintro _ _ ⟨b1, b2, rfl, rfl⟩
  refine g_end (hz _ _ ⟨_, ob_fin, ?_⟩)
  clear hz Qz
  refine ob_q rfl rfl ⟨_, fun X Q h => o_assign (g_end (h _ _ ⟨rfl, rfl⟩)), ?_⟩
  refine ob_nil ?_
  refine G.imp (hQ_ .normal _) ?_
  clear hQ_ Q_
  try refine g_then ?_
  repeat (first | refine g_endt ?_ | refine g_end ?_ | refine g_then ?_ | refine g_in_normal ?_ | refine g_then_ret ?_ | refine g_in_ret ?_ | refine g_then_exit ?_ | refine g_in_exit rfl ?_ | refine g_in_exit_ne (by decide) ?_ | refine g_seq ?_ | refine g_region ?_ | refine g_block ?_ | refine g_ret ?_ | refine g_return_n ?_ | refine g_exit ?_ | refine g_skip ?_)
  exact ret1 (K := [pM b1 a.pi, pK b2 k, stC s room next a]) rfl (resT rfl) ⟨b1, b2, rfl, rfl⟩
theorem WithSt_spec (s : Nat) (room next : Int) (a : StA) (k : SymD) : Ctr Try.prog 35 [.pointer (some ⟨s, 0, none⟩), k.val] [stC s room next a]
    (fun v M => ∃ b1 b2, v = .func (.func 76) #[] #[.pointer (some ⟨b1, 0, none⟩), .pointer (some ⟨b2, 0, none⟩)] ∧ M = [pM b1 a.pr, pK b2 k, stC s room next a]) := by
  refine spec_of Try.func35 rfl Try.ntmps35 rfl fun w0 F => ?_
  -- hide
  -- (*ponder/mem.Store).With
  repeat (first | refine g_endt ?_ | refine g_end ?_ | refine g_then ?_ | refine g_in_normal ?_ | refine g_then_ret ?_ | refine g_in_ret ?_ | refine g_then_exit ?_ | refine g_in_exit rfl ?_ | refine g_in_exit_ne (by decide) ?_ | refine g_seq ?_ | refine g_region ?_ | refine g_block ?_ | refine g_ret ?_ | refine g_return_n ?_ | refine g_exit ?_ | refine g_skip ?_)
  refine g_hideR fun Q_ hQ_ => ?_
  refine o_boxc k.cells.toArray rfl rfl fun q => ?_
  refine o_assign ?_
  refine g_end (G.imp (hQ_ .normal _) ?_)
  clear hQ_ Q_
  try refine g_then ?_
  repeat (first | refine g_endt ?_ | refine g_end ?_ | refine g_then ?_ | refine g_in_normal ?_ | refine g_then_ret ?_ | refine g_in_ret ?_ | refine g_then_exit ?_ | refine g_in_exit rfl ?_ | refine g_in_exit_ne (by decide) ?_ | refine g_seq ?_ | refine g_region ?_ | refine g_block ?_ | refine g_ret ?_ | refine g_return_n ?_ | refine g_exit ?_ | refine g_skip ?_)
  refine g_hide fun Q_ hQ_ => ?_
  refine g_draw [5] [0,1,2,3,4,5,6] [stC s room next a, cellsB q k.cells.toArray 23] mixed rfl ?_
  refine ob_q rfl rfl ⟨_, fun X Q h => o_move (g_end (h _ _ ⟨rfl, rfl⟩)), ?_⟩
  refine ob_q rfl rfl ⟨_, fun X Q h => o_nil rfl (g_end (h _ _ ⟨rfl, rfl⟩)), ?_⟩
  first | refine ob_q rfl rfl ⟨_, fun X Q h => o_field rfl (g_end (h _ _ ⟨rfl, rfl⟩)), ?_⟩ | refine ob_q rfl rfl ⟨_, fun X Q h => o_fieldR rfl (by omega) (g_end (h _ _ ⟨rfl, rfl⟩)), ?_⟩
  refine ob_q rfl rfl ⟨_, fun X Q h => o_load1 (v := .pointer (some ⟨a.pr, 0, none⟩)) rfl rfl (g_end (h _ _ ⟨rfl, rfl⟩)), ?_⟩
  refine ob_q rfl rfl ⟨_, fun X Q h => o_loadN (v := k.val) rfl rfl rfl (g_end (h _ _ ⟨rfl, rfl⟩)), ?_⟩
  refine ob_l rfl rfl fun Qz hz => o_call (thoseC_spec a.pr k) rfl rfl ?_
  rintro _ _ ⟨b1, b2, rfl, rfl⟩
  refine g_end (hz _ _ ⟨_, ob_fin, ?_⟩)
  clear hz Qz
  refine ob_q rfl rfl ⟨_, fun X Q h => o_assign (g_end (h _ _ ⟨rfl, rfl⟩)), ?_⟩
  refine ob_nil ?_
  refine G.imp (hQ_ .normal _) ?_
  clear hQ_ Q_
  try refine g_then ?_
  repeat (first | refine g_endt ?_ | refine g_end ?_ | refine g_then ?_ | refine g_in_normal ?_ | refine g_then_ret ?_ | refine g_in_ret ?_ | refine g_then_exit ?_ | refine g_in_exit rfl ?_ | refine g_in_exit_ne (by decide) ?_ | refine g_seq ?_ | refine g_region ?_ | refine g_block ?_ | refine g_ret ?_ | refine g_return_n ?_ | refine g_exit ?_ | refine g_skip ?_)
  exact ret1 (K := [pM b1 a.pr, pK b2 k, stC s room next a]) rfl (resT rfl) ⟨b1, b2, rfl, rfl⟩
end Go.Proofs.Ytdpbjoldgiikkaa
/- The law on what working memory is asked, walked. -/
namespace Go.Proofs.Ytdpbjoldgiikkaa
open Go Go.Sl
attribute [local irreducible] Exit.then Exit.inBlock Code.wpIn roundPost bodyPostM runL Ret Meets MeetsD Begin

theorem eq_elem_self (e : ElemD) : EqTy Try.prog 25 e.val e.val true := by
  have := eq_elem e e; rwa [ElemD.beq_self] at this
theorem eq_bool_self (b : Bool) : EqTy Try.prog 4 (.bool b) (.bool b) true := by
  have := eq_bool b b; rwa [beq_self_eq_true] at this
theorem keyD_snoc {f : ElemD → SymD} {ss : List ElemD} {i : Nat} {x : ElemD} (hx : ss[i]? = some x) (k : SymD) : keyD f (ss.take (i + 1)) k = keyD f (ss.take i) k ++ (if (f x).beq k then [x] else []) := by
  unfold keyD
  rw [List.take_add_one, hx, List.filter_append]
  congr 1
  show List.filter _ [x] = _
  rw [List.filter_cons, List.filter_nil]
theorem FindEK_spec (A : Option Addr) (n c : Nat) (l : List ElemD) (e : ElemD) (hl : l.length = n) (hm : n ≤ 1000000) {o : Option ElemD} (h : getM ElemD.cmp l e = o) : Ctr Try.prog 27 [.slice A n c, e.val] [psl encE 12 A l]
    (fun v M => v = .tuple #[(o.getD ElemD.zero).val, .bool o.isSome] ∧ M = []) := by
  rw [← h]; exact FindE_spec A n c l e hl hm
theorem SortEK_spec (A : Option Addr) (n c : Nat) (l : List ElemD) (hl : l.length = n) (hm : n ≤ 10000) {ss : List ElemD} (h : sortE l = ss) : Ctr Try.prog 28 [.slice A n c] [psl encE 12 A l]
    (fun v M => ∃ T d, v = .slice T ss.length d ∧ M = [psl encE 12 T ss]) := by
  rw [← h]; exact (SortE_spec A n c l hl hm).mono fun v M ⟨T, d, _, h1, h2⟩ => ⟨T, d, h1, h2⟩
set_option maxHeartbeats 2000000 in
theorem MemIndexes_spec (A : Option Addr) (n c : Nat) (l : List ElemD) (hl : l.length = n) (hn : n ≤ 9223372036854775807) (id attr : SymD) (e : ElemD) (tag : Int) : Ctr Try.prog 8 [.slice A n c, id.val, attr.val, e.val, .int .i64 tag] [psl encE 12 A l] (fun v M => v = .bool true ∧ M = []) := by
  refine spec_of Try.func8 rfl Try.ntmps8 rfl fun w0 F => ?_
  -- hide
  -- ponder/ponderlaw10.MemIndexes
  obtain ⟨R, hR⟩ : ∃ R, setD 100 1 [] l = R := ⟨_, rfl⟩
  have hRb : RdB 100 1 [] l.length R := by rw [← hR]; exact rdB 100 1 [] l
  obtain ⟨b1, b2, b3, b4, b5⟩ := hRb
  rw [List.length_nil] at b3 b5
  obtain ⟨ss, hss⟩ : ∃ ss, sortE R.ts = ss := ⟨_, rfl⟩
  have hsl : ss.length ≤ R.ts.length := by rw [← hss]; exact sortE_len' R.ts
  obtain ⟨o1, ho1⟩ : ∃ o, getM ElemD.cmp R.ts e = o := ⟨_, rfl⟩
  obtain ⟨o2, ho2⟩ : ∃ o, getT R.ts tag = o := ⟨_, rfl⟩
  repeat (first | refine g_endt ?_ | refine g_end ?_ | refine g_then ?_ | refine g_in_normal ?_ | refine g_then_ret ?_ | refine g_in_ret ?_ | refine g_then_exit ?_ | refine g_in_exit rfl ?_ | refine g_in_exit_ne (by decide) ?_ | refine g_seq ?_ | refine g_region ?_ | refine g_block ?_ | refine g_ret ?_ | refine g_return_n ?_ | refine g_exit ?_ | refine g_skip ?_)
  refine g_hideR fun Q_ hQ_ => ?_
  refine o_boxc id.cells.toArray rfl rfl fun bi => ?_
  refine o_boxc attr.cells.toArray rfl rfl fun ba => ?_
  refine o_boxc e.val.cells rfl rfl fun be => ?_
  refine o_assign ?_
  refine g_end (G.imp (hQ_ .normal _) ?_)
  clear hQ_ Q_
  try refine g_then ?_
  repeat (first | refine g_endt ?_ | refine g_end ?_ | refine g_then ?_ | refine g_in_normal ?_ | refine g_then_ret ?_ | refine g_in_ret ?_ | refine g_then_exit ?_ | refine g_in_exit rfl ?_ | refine g_in_exit_ne (by decide) ?_ | refine g_seq ?_ | refine g_region ?_ | refine g_block ?_ | refine g_ret ?_ | refine g_return_n ?_ | refine g_exit ?_ | refine g_skip ?_)
  refine g_hideR fun Q_ hQ_ => ?_
  refine o_move ?_
  refine o_callp (light_spec A n c 60 l hl hn (by decide)) rfl rfl ?_
  rintro _ _ ⟨rfl, rfl⟩
  refine o_not rfl ?_
  refine g_end (G.imp (hQ_ .normal _) ?_)
  clear hQ_ Q_
  try refine g_then ?_
  cases hlt : lightE l 60 with
  | false =>
    first | refine g_seq (g_cond_t rfl (by first | rfl | (simp; done) | (simp; omega) | (simp; assumption)) ?_) | refine g_cond_t rfl (by first | rfl | (simp; done) | (simp; omega) | (simp; assumption)) ?_
    repeat (first | refine g_endt ?_ | refine g_end ?_ | refine g_then ?_ | refine g_in_normal ?_ | refine g_then_ret ?_ | refine g_in_ret ?_ | refine g_then_exit ?_ | refine g_in_exit rfl ?_ | refine g_in_exit_ne (by decide) ?_ | refine g_seq ?_ | refine g_region ?_ | refine g_block ?_ | refine g_ret ?_ | refine g_return_n ?_ | refine g_exit ?_ | refine g_skip ?_)
    refine g_hideR fun Q_ hQ_ => ?_
    refine o_call (wakes10_spec) rfl rfl ?_
    rintro _ _ ⟨rfl, rfl⟩
    refine o_assign ?_
    refine g_end (G.imp (hQ_ .normal _) ?_)
    clear hQ_ Q_
    try refine g_then ?_
    repeat (first | refine g_endt ?_ | refine g_end ?_ | refine g_then ?_ | refine g_in_normal ?_ | refine g_then_ret ?_ | refine g_in_ret ?_ | refine g_then_exit ?_ | refine g_in_exit rfl ?_ | refine g_in_exit_ne (by decide) ?_ | refine g_seq ?_ | refine g_region ?_ | refine g_block ?_ | refine g_ret ?_ | refine g_return_n ?_ | refine g_exit ?_ | refine g_skip ?_)
    exact ret1 (K := []) rfl (resT rfl) ⟨rfl, rfl⟩
  | true =>
    first | refine g_seq (g_cond_f rfl (by first | rfl | (simp; done) | (simp; omega) | (simp; assumption)) ?_) | refine g_cond_f rfl (by first | rfl | (simp; done) | (simp; omega) | (simp; assumption)) ?_
    obtain ⟨hn60, hsm⟩ := light_small hlt
    repeat (first | refine g_endt ?_ | refine g_end ?_ | refine g_then ?_ | refine g_in_normal ?_ | refine g_then_ret ?_ | refine g_in_ret ?_ | refine g_then_exit ?_ | refine g_in_exit rfl ?_ | refine g_in_exit_ne (by decide) ?_ | refine g_seq ?_ | refine g_region ?_ | refine g_block ?_ | refine g_ret ?_ | refine g_return_n ?_ | refine g_exit ?_ | refine g_skip ?_)
    refine g_hideR fun Q_ hQ_ => ?_
    refine o_call (NewG_spec 100 (by decide) (by decide)) rfl rfl ?_
    rintro _ _ ⟨s, rfl, rfl⟩
    refine o_move ?_
    refine o_extract rfl rfl ?_
    refine o_extract rfl rfl ?_
    refine o_assign ?_
    refine o_assign ?_
    refine g_end (G.imp (hQ_ .normal _) ?_)
    clear hQ_ Q_
    try refine g_then ?_
    repeat (first | refine g_endt ?_ | refine g_end ?_ | refine g_then ?_ | refine g_in_normal ?_ | refine g_then_ret ?_ | refine g_in_ret ?_ | refine g_then_exit ?_ | refine g_in_exit rfl ?_ | refine g_in_exit_ne (by decide) ?_ | refine g_seq ?_ | refine g_region ?_ | refine g_block ?_ | refine g_ret ?_ | refine g_return_n ?_ | refine g_exit ?_ | refine g_skip ?_)
    refine g_hideR fun Q_ hQ_ => ?_
    refine o_move ?_
    refine o_neq rfl rfl ?_
    refine o_move ?_
    first | (refine o_want rfl rfl rfl rfl rfl ?_; refine o_move ?_) | refine o_unwanted rfl rfl rfl rfl rfl ?_ | refine o_undef rfl rfl rfl ?_
    first | (refine o_want rfl rfl rfl rfl rfl ?_; refine o_peql rfl ?_) | refine o_unwanted rfl rfl rfl rfl rfl ?_ | refine o_undef rfl rfl rfl ?_
    first | refine o_pick_t rfl rfl ?_ | refine o_pick_f rfl rfl ?_
    refine g_end (G.imp (hQ_ .normal _) ?_)
    clear hQ_ Q_
    try refine g_then ?_
    first | refine g_seq (g_cond_f rfl (by first | rfl | (simp; done) | (simp; omega) | (simp; assumption)) ?_) | refine g_cond_f rfl (by first | rfl | (simp; done) | (simp; omega) | (simp; assumption)) ?_
    repeat (first | refine g_endt ?_ | refine g_end ?_ | refine g_then ?_ | refine g_in_normal ?_ | refine g_then_ret ?_ | refine g_in_ret ?_ | refine g_then_exit ?_ | refine g_in_exit rfl ?_ | refine g_in_exit_ne (by decide) ?_ | refine g_seq ?_ | refine g_region ?_ | refine g_block ?_ | refine g_ret ?_ | refine g_return_n ?_ | refine g_exit ?_ | refine g_skip ?_)
    refine g_hideR fun Q_ hQ_ => ?_
    refine o_move ?_
    refine o_move ?_
    refine o_call (SetK_spec s 100 1 [] A n c l hl (by omega) hsm (by simp) (by decide) ⟨by decide, by decide⟩ hR) rfl rfl ?_
    rintro _ _ ⟨U0, u0, W0, wc0, rfl, rfl⟩
    refine g_end (G.imp (hQ_ .normal _) ?_)
    clear hQ_ Q_
    try refine g_then ?_
    refine g_keep [(4, .int .i64 tag), (6, .pointer (some ⟨bi, 0, none⟩)), (7, .pointer (some ⟨ba, 0, none⟩)), (8, .pointer (some ⟨be, 0, none⟩)), (11, .pointer (some ⟨s, 0, none⟩))] ⟨rfl, rfl, rfl, rfl, rfl, trivial⟩ fun ρ2 => ?_
    repeat (first | refine g_endt ?_ | refine g_end ?_ | refine g_then ?_ | refine g_in_normal ?_ | refine g_then_ret ?_ | refine g_in_ret ?_ | refine g_then_exit ?_ | refine g_in_exit rfl ?_ | refine g_in_exit_ne (by decide) ?_ | refine g_seq ?_ | refine g_region ?_ | refine g_block ?_ | refine g_ret ?_ | refine g_return_n ?_ | refine g_exit ?_ | refine g_skip ?_)
    refine g_hideR fun Q_ hQ_ => ?_
    refine o_move ?_
    refine o_call (AllSt_spec s) rfl rfl ?_
    rintro _ _ ⟨q1, rfl, rfl⟩
    refine o_call (ListE_spec 50 [.pointer (some ⟨q1, 0, none⟩)] R.ts rfl (by omega) [StP s 100 R.next R.ts, pSt q1 s] (fun K => All1St_iter s q1 100 R.next R.ts (by omega) _)) rfl rfl ?_
    rintro _ _ ⟨S5, c5, rfl, rfl⟩
    refine o_assign ?_
    refine g_end (G.imp (hQ_ .normal _) ?_)
    clear hQ_ Q_
    try refine g_then ?_
    refine G.bring [oE S5 c5 R.ts] ?_
    refine G.frz ?_
    repeat (first | refine g_endt ?_ | refine g_end ?_ | refine g_then ?_ | refine g_in_normal ?_ | refine g_then_ret ?_ | refine g_in_ret ?_ | refine g_then_exit ?_ | refine g_in_exit rfl ?_ | refine g_in_exit_ne (by decide) ?_ | refine g_seq ?_ | refine g_region ?_ | refine g_block ?_ | refine g_ret ?_ | refine g_return_n ?_ | refine g_exit ?_ | refine g_skip ?_)
    refine g_hideR fun Q_ hQ_ => ?_
    refine o_assign ?_
    refine o_assign ?_
    refine g_end (G.imp (hQ_ .normal _) ?_)
    clear hQ_ Q_
    try refine g_then ?_
    refine G.nil_slice 25 encE 12 ?_
    refine G.nil_slice 25 encE 12 ?_
    repeat (first | refine g_endt ?_ | refine g_end ?_ | refine g_then ?_ | refine g_in_normal ?_ | refine g_then_ret ?_ | refine g_in_ret ?_ | refine g_then_exit ?_ | refine g_in_exit rfl ?_ | refine g_in_exit_ne (by decide) ?_ | refine g_seq ?_ | refine g_region ?_ | refine g_block ?_ | refine g_ret ?_ | refine g_return_n ?_ | refine g_exit ?_ | refine g_skip ?_)
    refine g_hideR fun Q_ hQ_ => ?_
    refine o_move ?_
    refine o_callp (SortEK_spec S5 R.ts.length c5 R.ts rfl (by omega) hss) rfl rfl ?_
    rintro _ _ ⟨T, d, rfl, rfl⟩
    refine o_assign ?_
    refine g_end (G.imp (hQ_ .normal _) ?_)
    clear hQ_ Q_
    try refine g_then ?_
    repeat (first | refine g_endt ?_ | refine g_end ?_ | refine g_then ?_ | refine g_in_normal ?_ | refine g_then_ret ?_ | refine g_in_ret ?_ | refine g_then_exit ?_ | refine g_in_exit rfl ?_ | refine g_in_exit_ne (by decide) ?_ | refine g_seq ?_ | refine g_region ?_ | refine g_block ?_ | refine g_ret ?_ | refine g_return_n ?_ | refine g_exit ?_ | refine g_skip ?_)
    refine g_hideR fun Q_ hQ_ => ?_
    refine o_assign ?_
    refine g_end (G.imp (hQ_ .normal _) ?_)
    clear hQ_ Q_
    try refine g_then ?_
    repeat (first | refine g_endt ?_ | refine g_end ?_ | refine g_then ?_ | refine g_in_normal ?_ | refine g_then_ret ?_ | refine g_in_ret ?_ | refine g_then_exit ?_ | refine g_in_exit rfl ?_ | refine g_in_exit_ne (by decide) ?_ | refine g_seq ?_ | refine g_region ?_ | refine g_block ?_ | refine g_ret ?_ | refine g_return_n ?_ | refine g_exit ?_ | refine g_skip ?_)
    refine g_loop (σ := {t : Nat × (Option Addr × Nat) × (Option Addr × Nat) // t.1 ≤ ss.length}) (S := fun t => [(4, .int .i64 tag), (6, .pointer (some ⟨bi, 0, none⟩)), (7, .pointer (some ⟨ba, 0, none⟩)), (8, .pointer (some ⟨be, 0, none⟩)), (11, .pointer (some ⟨s, 0, none⟩)), (13, .slice S5 R.ts.length c5), (14, .slice t.1.2.1.1 (keyD ElemD.id (ss.take t.1.1) id).length t.1.2.1.2), (15, .slice t.1.2.2.1 (keyD ElemD.attr (ss.take t.1.1) attr).length t.1.2.2.2), (16, .slice T ss.length d), (17, .int .i64 (t.1.1 : Int))])
      (H := fun t => [oE t.1.2.1.1 t.1.2.1.2 (keyD ElemD.id (ss.take t.1.1) id), oE t.1.2.2.1 t.1.2.2.2 (keyD ElemD.attr (ss.take t.1.1) attr), psl encE 12 T ss, psl encE 12 S5 R.ts, StP s 100 R.next R.ts, cellsB bi id.cells.toArray 23, cellsB ba attr.cells.toArray 23, cellsB be e.val.cells 25]) (μ := fun t => ss.length - t.1.1) (s0 := ⟨(0, (none, 0), (none, 0)), Nat.zero_le _⟩) (Sat.mem ⟨rfl, rfl, rfl, rfl, rfl, rfl, rfl, rfl, rfl, rfl, trivial⟩)
      (t := (inferInstance : Take _ [oE none 0 [], oE none 0 [], psl encE 12 T ss, psl encE 12 S5 R.ts, StP s 100 R.next R.ts, cellsB bi id.cells.toArray 23, cellsB ba attr.cells.toArray 23, cellsB be e.val.cells 25] _)) ?_
    rintro ⟨⟨i, ⟨U, u⟩, ⟨V, v⟩⟩, hi⟩ ρ'
    dsimp only at hi ⊢
    by_cases hin : i < ss.length
    · obtain ⟨x, hx⟩ : ∃ x, ss[i]? = some x := ⟨_, List.getElem?_eq_getElem hin⟩
      have hus := keyD_snoc (f := ElemD.id) hx id
      have hvs := keyD_snoc (f := ElemD.attr) hx attr
      have hul : (keyD ElemD.id (ss.take i) id).length ≤ i := Nat.le_trans (keyD_len _ _ _) (by simp; omega)
      have hvl : (keyD ElemD.attr (ss.take i) attr).length ≤ i := Nat.le_trans (keyD_len _ _ _) (by simp; omega)
      generalize keyD ElemD.id (ss.take i) id = us at hus hul ⊢
      generalize keyD ElemD.attr (ss.take i) attr = vs at hvs hvl ⊢
      repeat (first | refine g_endt ?_ | refine g_end ?_ | refine g_then ?_ | refine g_in_normal ?_ | refine g_then_ret ?_ | refine g_in_ret ?_ | refine g_then_exit ?_ | refine g_in_exit rfl ?_ | refine g_in_exit_ne (by decide) ?_ | refine g_seq ?_ | refine g_region ?_ | refine g_block ?_ | refine g_ret ?_ | refine g_return_n ?_ | refine g_exit ?_ | refine g_skip ?_)
      refine g_hideR fun Q_ hQ_ => ?_
      refine o_move ?_
      refine o_move ?_
      refine o_len rfl rfl ?_
      refine o_lss rfl rfl ?_
      refine g_end (G.imp (hQ_ .normal _) ?_)
      clear hQ_ Q_
      try refine g_then ?_
      first | refine g_seq (g_cond_t rfl (by simpa using hin) ?_) | refine g_cond_t rfl (by simpa using hin) ?_
      repeat (first | refine g_endt ?_ | refine g_end ?_ | refine g_then ?_ | refine g_in_normal ?_ | refine g_then_ret ?_ | refine g_in_ret ?_ | refine g_then_exit ?_ | refine g_in_exit rfl ?_ | refine g_in_exit_ne (by decide) ?_ | refine g_seq ?_ | refine g_region ?_ | refine g_block ?_ | refine g_ret ?_ | refine g_return_n ?_ | refine g_exit ?_ | refine g_skip ?_)
      refine g_hide fun Q_ hQ_ => ?_
      refine g_draw [] [0,1,2,3,4,5,6] [psl encE 12 T ss, cellsB bi id.cells.toArray 23] mixed rfl ?_
      refine ob_q rfl rfl ⟨_, fun X Q h => o_move (g_end (h _ _ ⟨rfl, rfl⟩)), ?_⟩
      refine ob_q rfl rfl ⟨_, fun X Q h => o_move (g_end (h _ _ ⟨rfl, rfl⟩)), ?_⟩
      refine ob_q rfl rfl ⟨_, fun X Q h => o_indexR (ys := ss) (i := i) rfl rfl rfl hin rfl rfl (g_end (h _ _ ⟨rfl, rfl⟩)), ?_⟩
      refine ob_q rfl rfl ⟨_, fun X Q h => o_fieldR (ys := ss) rfl (by omega) (g_end (h _ _ ⟨rfl, rfl⟩)), ?_⟩
      refine ob_q rfl rfl ⟨_, fun X Q h => o_loadEN (off := 0) (ys := ss) (v := x.id.val) rfl hx rfl rfl (g_end (h _ _ ⟨rfl, rfl⟩)), ?_⟩
      refine ob_q rfl rfl ⟨_, fun X Q h => o_loadN (v := id.val) rfl rfl rfl (g_end (h _ _ ⟨rfl, rfl⟩)), ?_⟩
      refine ob_q rfl rfl ⟨_, fun X Q h => o_eqty rfl rfl (eq_sym x.id id) (g_end (h _ _ ⟨rfl, rfl⟩)), ?_⟩
      refine ob_nil ?_
      refine G.imp (hQ_ .normal _) ?_
      clear hQ_ Q_
      try refine g_then ?_
      cases h1 : x.id.beq id with
      | true =>
        rw [h1, if_pos rfl] at hus
        first | refine g_seq (g_cond_t rfl (by first | rfl | (simp; done) | (simp; omega) | (simp; assumption)) ?_) | refine g_cond_t rfl (by first | rfl | (simp; done) | (simp; omega) | (simp; assumption)) ?_
        repeat (first | refine g_endt ?_ | refine g_end ?_ | refine g_then ?_ | refine g_in_normal ?_ | refine g_then_ret ?_ | refine g_in_ret ?_ | refine g_then_exit ?_ | refine g_in_exit rfl ?_ | refine g_in_exit_ne (by decide) ?_ | refine g_seq ?_ | refine g_region ?_ | refine g_block ?_ | refine g_ret ?_ | refine g_return_n ?_ | refine g_exit ?_ | refine g_skip ?_)
        refine g_hideR fun Q_ hQ_ => ?_
        refine o_move ?_
        refine o_move ?_
        refine o_move ?_
        refine o_indexR (ys := ss) (i := i) rfl rfl rfl hin rfl rfl ?_
        refine o_loadE (ys := ss) rfl rfl hx ?_
        refine o_litP (e := 25) encE [x] (x).val.cells (fun w => by kernel_rfl) (by simp [encE]) (by simp [maxLen]) fun _ => ?_
        refine o_append (xs := us) (ys := [x]) (by first | rfl | (simp only [List.length_map, List.length_take, List.length_append]; first | rfl | (congr 1; omega))) rfl rfl rfl rfl (fun _ => .inr trivial) (by simp [maxLen]; omega) (by simp; omega) fun U2 u2 => ?_
        refine o_assign ?_
        refine g_end (G.imp (hQ_ .normal _) ?_)
        clear hQ_ Q_
        try refine g_then ?_
        repeat (first | refine g_endt ?_ | refine g_end ?_ | refine g_then ?_ | refine g_in_normal ?_ | refine g_then_ret ?_ | refine g_in_ret ?_ | refine g_then_exit ?_ | refine g_in_exit rfl ?_ | refine g_in_exit_ne (by decide) ?_ | refine g_seq ?_ | refine g_region ?_ | refine g_block ?_ | refine g_ret ?_ | refine g_return_n ?_ | refine g_exit ?_ | refine g_skip ?_)
        repeat (first | refine g_endt ?_ | refine g_end ?_ | refine g_then ?_ | refine g_in_normal ?_ | refine g_then_ret ?_ | refine g_in_ret ?_ | refine g_then_exit ?_ | refine g_in_exit rfl ?_ | refine g_in_exit_ne (by decide) ?_ | refine g_seq ?_ | refine g_region ?_ | refine g_block ?_ | refine g_ret ?_ | refine g_return_n ?_ | refine g_exit ?_ | refine g_skip ?_)
        refine g_hide fun Q_ hQ_ => ?_
        refine g_draw [] [0,1,2,3,4,5,6] [psl encE 12 T ss, cellsB ba attr.cells.toArray 23] mixed rfl ?_
        refine ob_q rfl rfl ⟨_, fun X Q h => o_move (g_end (h _ _ ⟨rfl, rfl⟩)), ?_⟩
        refine ob_q rfl rfl ⟨_, fun X Q h => o_move (g_end (h _ _ ⟨rfl, rfl⟩)), ?_⟩
        refine ob_q rfl rfl ⟨_, fun X Q h => o_indexR (ys := ss) (i := i) rfl rfl rfl hin rfl rfl (g_end (h _ _ ⟨rfl, rfl⟩)), ?_⟩
        refine ob_q rfl rfl ⟨_, fun X Q h => o_fieldR (ys := ss) rfl (by omega) (g_end (h _ _ ⟨rfl, rfl⟩)), ?_⟩
        refine ob_q rfl rfl ⟨_, fun X Q h => o_loadEN (off := 3) (ys := ss) (v := x.attr.val) rfl hx rfl rfl (g_end (h _ _ ⟨rfl, rfl⟩)), ?_⟩
        refine ob_q rfl rfl ⟨_, fun X Q h => o_loadN (v := attr.val) rfl rfl rfl (g_end (h _ _ ⟨rfl, rfl⟩)), ?_⟩
        refine ob_q rfl rfl ⟨_, fun X Q h => o_eqty rfl rfl (eq_sym x.attr attr) (g_end (h _ _ ⟨rfl, rfl⟩)), ?_⟩
        refine ob_nil ?_
        refine G.imp (hQ_ .normal _) ?_
        clear hQ_ Q_
        try refine g_then ?_
        cases h2 : x.attr.beq attr with
        | true =>
          rw [h2, if_pos rfl] at hvs
          first | refine g_seq (g_cond_t rfl (by first | rfl | (simp; done) | (simp; omega) | (simp; assumption)) ?_) | refine g_cond_t rfl (by first | rfl | (simp; done) | (simp; omega) | (simp; assumption)) ?_
          repeat (first | refine g_endt ?_ | refine g_end ?_ | refine g_then ?_ | refine g_in_normal ?_ | refine g_then_ret ?_ | refine g_in_ret ?_ | refine g_then_exit ?_ | refine g_in_exit rfl ?_ | refine g_in_exit_ne (by decide) ?_ | refine g_seq ?_ | refine g_region ?_ | refine g_block ?_ | refine g_ret ?_ | refine g_return_n ?_ | refine g_exit ?_ | refine g_skip ?_)
          refine g_hideR fun Q_ hQ_ => ?_
          refine o_move ?_
          refine o_move ?_
          refine o_move ?_
          refine o_indexR (ys := ss) (i := i) rfl rfl rfl hin rfl rfl ?_
          refine o_loadE (ys := ss) rfl rfl hx ?_
          refine o_litP (e := 25) encE [x] (x).val.cells (fun w => by kernel_rfl) (by simp [encE]) (by simp [maxLen]) fun _ => ?_
          refine o_append (xs := vs) (ys := [x]) (by first | rfl | (simp only [List.length_map, List.length_take, List.length_append]; first | rfl | (congr 1; omega))) rfl rfl rfl rfl (fun _ => .inr trivial) (by simp [maxLen]; omega) (by simp; omega) fun V2 v2 => ?_
          refine o_assign ?_
          refine g_end (G.imp (hQ_ .normal _) ?_)
          clear hQ_ Q_
          try refine g_then ?_
          rw [← hus]
          rw [← hvs]
          repeat (first | refine g_endt ?_ | refine g_end ?_ | refine g_then ?_ | refine g_in_normal ?_ | refine g_then_ret ?_ | refine g_in_ret ?_ | refine g_then_exit ?_ | refine g_in_exit rfl ?_ | refine g_in_exit_ne (by decide) ?_ | refine g_seq ?_ | refine g_region ?_ | refine g_block ?_ | refine g_ret ?_ | refine g_return_n ?_ | refine g_exit ?_ | refine g_skip ?_)
          repeat (first | refine g_endt ?_ | refine g_end ?_ | refine g_then ?_ | refine g_in_normal ?_ | refine g_then_ret ?_ | refine g_in_ret ?_ | refine g_then_exit ?_ | refine g_in_exit rfl ?_ | refine g_in_exit_ne (by decide) ?_ | refine g_seq ?_ | refine g_region ?_ | refine g_block ?_ | refine g_ret ?_ | refine g_return_n ?_ | refine g_exit ?_ | refine g_skip ?_)
          refine g_hideR fun Q_ hQ_ => ?_
          refine o_move ?_
          refine o_add (c := ((i + 1 : Nat) : Int)) rfl rfl (by omega) (by omega) (by omega) ?_
          refine o_assign ?_
          refine g_end (G.imp (hQ_ .normal _) ?_)
          clear hQ_ Q_
          try refine g_then ?_
          repeat (first | refine g_endt ?_ | refine g_end ?_ | refine g_then ?_ | refine g_in_normal ?_ | refine g_then_ret ?_ | refine g_in_ret ?_ | refine g_then_exit ?_ | refine g_in_exit rfl ?_ | refine g_in_exit_ne (by decide) ?_ | refine g_seq ?_ | refine g_region ?_ | refine g_block ?_ | refine g_ret ?_ | refine g_return_n ?_ | refine g_exit ?_ | refine g_skip ?_)
          exact g_meets ⟨(i + 1, (U2, u2), (V2, v2)), hin⟩ (by show ss.length - (i + 1) < ss.length - i; omega) (Sat.mem ⟨rfl, rfl, rfl, rfl, rfl, rfl, (show Value.slice U2 (us.length + 1) u2 = Value.slice U2 (keyD ElemD.id (ss.take (i + 1)) id).length u2 by rw [hus, List.length_append]; rfl), (show Value.slice V2 (vs.length + 1) v2 = Value.slice V2 (keyD ElemD.attr (ss.take (i + 1)) attr).length v2 by rw [hvs, List.length_append]; rfl), rfl, rfl, trivial⟩)
        | false =>
          rw [h2, if_neg (by decide), List.append_nil] at hvs
          subst hvs
          first | refine g_seq (g_cond_f rfl (by first | rfl | (simp; done) | (simp; omega) | (simp; assumption)) ?_) | refine g_cond_f rfl (by first | rfl | (simp; done) | (simp; omega) | (simp; assumption)) ?_
          rw [← hus]
          repeat (first | refine g_endt ?_ | refine g_end ?_ | refine g_then ?_ | refine g_in_normal ?_ | refine g_then_ret ?_ | refine g_in_ret ?_ | refine g_then_exit ?_ | refine g_in_exit rfl ?_ | refine g_in_exit_ne (by decide) ?_ | refine g_seq ?_ | refine g_region ?_ | refine g_block ?_ | refine g_ret ?_ | refine g_return_n ?_ | refine g_exit ?_ | refine g_skip ?_)
          repeat (first | refine g_endt ?_ | refine g_end ?_ | refine g_then ?_ | refine g_in_normal ?_ | refine g_then_ret ?_ | refine g_in_ret ?_ | refine g_then_exit ?_ | refine g_in_exit rfl ?_ | refine g_in_exit_ne (by decide) ?_ | refine g_seq ?_ | refine g_region ?_ | refine g_block ?_ | refine g_ret ?_ | refine g_return_n ?_ | refine g_exit ?_ | refine g_skip ?_)
          refine g_hideR fun Q_ hQ_ => ?_
          refine o_move ?_
          refine o_add (c := ((i + 1 : Nat) : Int)) rfl rfl (by omega) (by omega) (by omega) ?_
          refine o_assign ?_
          refine g_end (G.imp (hQ_ .normal _) ?_)
          clear hQ_ Q_
          try refine g_then ?_
          repeat (first | refine g_endt ?_ | refine g_end ?_ | refine g_then ?_ | refine g_in_normal ?_ | refine g_then_ret ?_ | refine g_in_ret ?_ | refine g_then_exit ?_ | refine g_in_exit rfl ?_ | refine g_in_exit_ne (by decide) ?_ | refine g_seq ?_ | refine g_region ?_ | refine g_block ?_ | refine g_ret ?_ | refine g_return_n ?_ | refine g_exit ?_ | refine g_skip ?_)
          exact g_meets ⟨(i + 1, (U2, u2), (V, v)), hin⟩ (by show ss.length - (i + 1) < ss.length - i; omega) (Sat.mem ⟨rfl, rfl, rfl, rfl, rfl, rfl, (show Value.slice U2 (us.length + 1) u2 = Value.slice U2 (keyD ElemD.id (ss.take (i + 1)) id).length u2 by rw [hus, List.length_append]; rfl), rfl, rfl, rfl, trivial⟩)
      | false =>
        rw [h1, if_neg (by decide), List.append_nil] at hus
        subst hus
        first | refine g_seq (g_cond_f rfl (by first | rfl | (simp; done) | (simp; omega) | (simp; assumption)) ?_) | refine g_cond_f rfl (by first | rfl | (simp; done) | (simp; omega) | (simp; assumption)) ?_
        repeat (first | refine g_endt ?_ | refine g_end ?_ | refine g_then ?_ | refine g_in_normal ?_ | refine g_then_ret ?_ | refine g_in_ret ?_ | refine g_then_exit ?_ | refine g_in_exit rfl ?_ | refine g_in_exit_ne (by decide) ?_ | refine g_seq ?_ | refine g_region ?_ | refine g_block ?_ | refine g_ret ?_ | refine g_return_n ?_ | refine g_exit ?_ | refine g_skip ?_)
        repeat (first | refine g_endt ?_ | refine g_end ?_ | refine g_then ?_ | refine g_in_normal ?_ | refine g_then_ret ?_ | refine g_in_ret ?_ | refine g_then_exit ?_ | refine g_in_exit rfl ?_ | refine g_in_exit_ne (by decide) ?_ | refine g_seq ?_ | refine g_region ?_ | refine g_block ?_ | refine g_ret ?_ | refine g_return_n ?_ | refine g_exit ?_ | refine g_skip ?_)
        refine g_hide fun Q_ hQ_ => ?_
        refine g_draw [] [0,1,2,3,4,5,6] [psl encE 12 T ss, cellsB ba attr.cells.toArray 23] mixed rfl ?_
        refine ob_q rfl rfl ⟨_, fun X Q h => o_move (g_end (h _ _ ⟨rfl, rfl⟩)), ?_⟩
        refine ob_q rfl rfl ⟨_, fun X Q h => o_move (g_end (h _ _ ⟨rfl, rfl⟩)), ?_⟩
        refine ob_q rfl rfl ⟨_, fun X Q h => o_indexR (ys := ss) (i := i) rfl rfl rfl hin rfl rfl (g_end (h _ _ ⟨rfl, rfl⟩)), ?_⟩
        refine ob_q rfl rfl ⟨_, fun X Q h => o_fieldR (ys := ss) rfl (by omega) (g_end (h _ _ ⟨rfl, rfl⟩)), ?_⟩
        refine ob_q rfl rfl ⟨_, fun X Q h => o_loadEN (off := 3) (ys := ss) (v := x.attr.val) rfl hx rfl rfl (g_end (h _ _ ⟨rfl, rfl⟩)), ?_⟩
        refine ob_q rfl rfl ⟨_, fun X Q h => o_loadN (v := attr.val) rfl rfl rfl (g_end (h _ _ ⟨rfl, rfl⟩)), ?_⟩
        refine ob_q rfl rfl ⟨_, fun X Q h => o_eqty rfl rfl (eq_sym x.attr attr) (g_end (h _ _ ⟨rfl, rfl⟩)), ?_⟩
        refine ob_nil ?_
        refine G.imp (hQ_ .normal _) ?_
        clear hQ_ Q_
        try refine g_then ?_
        cases h2 : x.attr.beq attr with
        | true =>
          rw [h2, if_pos rfl] at hvs
          first | refine g_seq (g_cond_t rfl (by first | rfl | (simp; done) | (simp; omega) | (simp; assumption)) ?_) | refine g_cond_t rfl (by first | rfl | (simp; done) | (simp; omega) | (simp; assumption)) ?_
          repeat (first | refine g_endt ?_ | refine g_end ?_ | refine g_then ?_ | refine g_in_normal ?_ | refine g_then_ret ?_ | refine g_in_ret ?_ | refine g_then_exit ?_ | refine g_in_exit rfl ?_ | refine g_in_exit_ne (by decide) ?_ | refine g_seq ?_ | refine g_region ?_ | refine g_block ?_ | refine g_ret ?_ | refine g_return_n ?_ | refine g_exit ?_ | refine g_skip ?_)
          refine g_hideR fun Q_ hQ_ => ?_
          refine o_move ?_
          refine o_move ?_
          refine o_move ?_
          refine o_indexR (ys := ss) (i := i) rfl rfl rfl hin rfl rfl ?_
          refine o_loadE (ys := ss) rfl rfl hx ?_
          refine o_litP (e := 25) encE [x] (x).val.cells (fun w => by kernel_rfl) (by simp [encE]) (by simp [maxLen]) fun _ => ?_
          refine o_append (xs := vs) (ys := [x]) (by first | rfl | (simp only [List.length_map, List.length_take, List.length_append]; first | rfl | (congr 1; omega))) rfl rfl rfl rfl (fun _ => .inr trivial) (by simp [maxLen]; omega) (by simp; omega) fun V2 v2 => ?_
          refine o_assign ?_
          refine g_end (G.imp (hQ_ .normal _) ?_)
          clear hQ_ Q_
          try refine g_then ?_
          rw [← hvs]
          repeat (first | refine g_endt ?_ | refine g_end ?_ | refine g_then ?_ | refine g_in_normal ?_ | refine g_then_ret ?_ | refine g_in_ret ?_ | refine g_then_exit ?_ | refine g_in_exit rfl ?_ | refine g_in_exit_ne (by decide) ?_ | refine g_seq ?_ | refine g_region ?_ | refine g_block ?_ | refine g_ret ?_ | refine g_return_n ?_ | refine g_exit ?_ | refine g_skip ?_)
          repeat (first | refine g_endt ?_ | refine g_end ?_ | refine g_then ?_ | refine g_in_normal ?_ | refine g_then_ret ?_ | refine g_in_ret ?_ | refine g_then_exit ?_ | refine g_in_exit rfl ?_ | refine g_in_exit_ne (by decide) ?_ | refine g_seq ?_ | refine g_region ?_ | refine g_block ?_ | refine g_ret ?_ | refine g_return_n ?_ | refine g_exit ?_ | refine g_skip ?_)
          refine g_hideR fun Q_ hQ_ => ?_
          refine o_move ?_
          refine o_add (c := ((i + 1 : Nat) : Int)) rfl rfl (by omega) (by omega) (by omega) ?_
          refine o_assign ?_
          refine g_end (G.imp (hQ_ .normal _) ?_)
          clear hQ_ Q_
          try refine g_then ?_
          repeat (first | refine g_endt ?_ | refine g_end ?_ | refine g_then ?_ | refine g_in_normal ?_ | refine g_then_ret ?_ | refine g_in_ret ?_ | refine g_then_exit ?_ | refine g_in_exit rfl ?_ | refine g_in_exit_ne (by decide) ?_ | refine g_seq ?_ | refine g_region ?_ | refine g_block ?_ | refine g_ret ?_ | refine g_return_n ?_ | refine g_exit ?_ | refine g_skip ?_)
          exact g_meets ⟨(i + 1, (U, u), (V2, v2)), hin⟩ (by show ss.length - (i + 1) < ss.length - i; omega) (Sat.mem ⟨rfl, rfl, rfl, rfl, rfl, rfl, rfl, (show Value.slice V2 (vs.length + 1) v2 = Value.slice V2 (keyD ElemD.attr (ss.take (i + 1)) attr).length v2 by rw [hvs, List.length_append]; rfl), rfl, rfl, trivial⟩)
        | false =>
          rw [h2, if_neg (by decide), List.append_nil] at hvs
          subst hvs
          first | refine g_seq (g_cond_f rfl (by first | rfl | (simp; done) | (simp; omega) | (simp; assumption)) ?_) | refine g_cond_f rfl (by first | rfl | (simp; done) | (simp; omega) | (simp; assumption)) ?_
          repeat (first | refine g_endt ?_ | refine g_end ?_ | refine g_then ?_ | refine g_in_normal ?_ | refine g_then_ret ?_ | refine g_in_ret ?_ | refine g_then_exit ?_ | refine g_in_exit rfl ?_ | refine g_in_exit_ne (by decide) ?_ | refine g_seq ?_ | refine g_region ?_ | refine g_block ?_ | refine g_ret ?_ | refine g_return_n ?_ | refine g_exit ?_ | refine g_skip ?_)
          repeat (first | refine g_endt ?_ | refine g_end ?_ | refine g_then ?_ | refine g_in_normal ?_ | refine g_then_ret ?_ | refine g_in_ret ?_ | refine g_then_exit ?_ | refine g_in_exit rfl ?_ | refine g_in_exit_ne (by decide) ?_ | refine g_seq ?_ | refine g_region ?_ | refine g_block ?_ | refine g_ret ?_ | refine g_return_n ?_ | refine g_exit ?_ | refine g_skip ?_)
          refine g_hideR fun Q_ hQ_ => ?_
          refine o_move ?_
          refine o_add (c := ((i + 1 : Nat) : Int)) rfl rfl (by omega) (by omega) (by omega) ?_
          refine o_assign ?_
          refine g_end (G.imp (hQ_ .normal _) ?_)
          clear hQ_ Q_
          try refine g_then ?_
          repeat (first | refine g_endt ?_ | refine g_end ?_ | refine g_then ?_ | refine g_in_normal ?_ | refine g_then_ret ?_ | refine g_in_ret ?_ | refine g_then_exit ?_ | refine g_in_exit rfl ?_ | refine g_in_exit_ne (by decide) ?_ | refine g_seq ?_ | refine g_region ?_ | refine g_block ?_ | refine g_ret ?_ | refine g_return_n ?_ | refine g_exit ?_ | refine g_skip ?_)
          exact g_meets ⟨(i + 1, (U, u), (V, v)), hin⟩ (by show ss.length - (i + 1) < ss.length - i; omega) (Sat.mem ⟨rfl, rfl, rfl, rfl, rfl, rfl, rfl, rfl, rfl, rfl, trivial⟩)
    · have hie : i = ss.length := by omega
      subst hie
      rw [List.take_length]
      repeat (first | refine g_endt ?_ | refine g_end ?_ | refine g_then ?_ | refine g_in_normal ?_ | refine g_then_ret ?_ | refine g_in_ret ?_ | refine g_then_exit ?_ | refine g_in_exit rfl ?_ | refine g_in_exit_ne (by decide) ?_ | refine g_seq ?_ | refine g_region ?_ | refine g_block ?_ | refine g_ret ?_ | refine g_return_n ?_ | refine g_exit ?_ | refine g_skip ?_)
      refine g_hideR fun Q_ hQ_ => ?_
      refine o_move ?_
      refine o_move ?_
      refine o_len rfl rfl ?_
      refine o_lss rfl rfl ?_
      refine g_end (G.imp (hQ_ .normal _) ?_)
      clear hQ_ Q_
      try refine g_then ?_
      first | refine g_seq (g_cond_f rfl (by simp) ?_) | refine g_cond_f rfl (by simp) ?_
      refine G.bring [oE U u (keyD ElemD.id ss id)] ?_
      refine G.frz ?_
      refine G.bring [oE V v (keyD ElemD.attr ss attr)] ?_
      refine G.frz ?_
      repeat (first | refine g_endt ?_ | refine g_end ?_ | refine g_then ?_ | refine g_in_normal ?_ | refine g_then_ret ?_ | refine g_in_ret ?_ | refine g_then_exit ?_ | refine g_in_exit rfl ?_ | refine g_in_exit_ne (by decide) ?_ | refine g_seq ?_ | refine g_region ?_ | refine g_block ?_ | refine g_ret ?_ | refine g_return_n ?_ | refine g_exit ?_ | refine g_skip ?_)
      refine g_hideR fun Q_ hQ_ => ?_
      refine o_move ?_
      refine o_loadN (v := e.val) rfl rfl rfl ?_
      refine o_call (FindSt_spec s 100 R.next R.ts e (by omega) ho1) rfl rfl ?_
      rintro _ _ ⟨rfl, rfl⟩
      refine o_move ?_
      refine o_extract rfl rfl ?_
      refine o_extract rfl rfl ?_
      refine o_alloc fun p1 => ?_
      refine o_store (v := (o1.getD ElemD.zero).val) rfl rfl rfl rfl rfl ?_
      refine o_assign ?_
      refine g_end (G.imp (hQ_ .normal _) ?_)
      clear hQ_ Q_
      try refine g_then ?_
      refine G.norm p1 (o1.getD ElemD.zero).val.cells rfl ?_
      repeat (first | refine g_endt ?_ | refine g_end ?_ | refine g_then ?_ | refine g_in_normal ?_ | refine g_then_ret ?_ | refine g_in_ret ?_ | refine g_then_exit ?_ | refine g_in_exit rfl ?_ | refine g_in_exit_ne (by decide) ?_ | refine g_seq ?_ | refine g_region ?_ | refine g_block ?_ | refine g_ret ?_ | refine g_return_n ?_ | refine g_exit ?_ | refine g_skip ?_)
      refine g_hideR fun Q_ hQ_ => ?_
      refine o_move ?_
      refine o_loadN (v := e.val) rfl rfl rfl ?_
      refine o_callp (FindEK_spec S5 R.ts.length c5 R.ts e rfl (by omega) ho1) rfl rfl ?_
      rintro _ _ ⟨rfl, rfl⟩
      refine o_move ?_
      refine o_extract rfl rfl ?_
      refine o_extract rfl rfl ?_
      refine o_alloc fun p2 => ?_
      refine o_store (v := (o1.getD ElemD.zero).val) rfl rfl rfl rfl rfl ?_
      refine o_assign ?_
      refine g_end (G.imp (hQ_ .normal _) ?_)
      clear hQ_ Q_
      try refine g_then ?_
      refine G.norm p2 (o1.getD ElemD.zero).val.cells rfl ?_
      repeat (first | refine g_endt ?_ | refine g_end ?_ | refine g_then ?_ | refine g_in_normal ?_ | refine g_then_ret ?_ | refine g_in_ret ?_ | refine g_then_exit ?_ | refine g_in_exit rfl ?_ | refine g_in_exit_ne (by decide) ?_ | refine g_seq ?_ | refine g_region ?_ | refine g_block ?_ | refine g_ret ?_ | refine g_return_n ?_ | refine g_exit ?_ | refine g_skip ?_)
      refine g_hideR fun Q_ hQ_ => ?_
      refine o_move ?_
      refine o_build ((.agg #[.int .i64 0, .int .i64 0, .slice S5 R.ts.length c5])) (fun w => by kernel_rfl) ?_
      refine o_boxc #[.int .i64 0, .int .i64 0, .slice S5 R.ts.length c5] rfl rfl fun r => ?_
      refine o_assign ?_
      refine g_end (G.imp (hQ_ .normal _) ?_)
      clear hQ_ Q_
      try refine g_then ?_
      refine g_keep [(4, .int .i64 tag), (6, .pointer (some ⟨bi, 0, none⟩)), (7, .pointer (some ⟨ba, 0, none⟩)), (11, .pointer (some ⟨s, 0, none⟩)), (14, .slice U (keyD ElemD.id ss id).length u), (15, .slice V (keyD ElemD.attr ss attr).length v), (18, .pointer (some ⟨p1, 0, none⟩)), (19, .bool o1.isSome), (20, .pointer (some ⟨p2, 0, none⟩)), (21, .bool o1.isSome), (22, .pointer (some ⟨r, 0, none⟩))] ⟨rfl, rfl, rfl, rfl, rfl, rfl, rfl, rfl, rfl, rfl, rfl, trivial⟩ fun ρ3 => ?_
      repeat (first | refine g_endt ?_ | refine g_end ?_ | refine g_then ?_ | refine g_in_normal ?_ | refine g_then_ret ?_ | refine g_in_ret ?_ | refine g_then_exit ?_ | refine g_in_exit rfl ?_ | refine g_in_exit_ne (by decide) ?_ | refine g_seq ?_ | refine g_region ?_ | refine g_block ?_ | refine g_ret ?_ | refine g_return_n ?_ | refine g_exit ?_ | refine g_skip ?_)
      refine g_hideR fun Q_ hQ_ => ?_
      refine o_move ?_
      refine o_move ?_
      refine o_call (GetSt_spec s 100 R.next R.ts tag (by omega) ho2) rfl rfl ?_
      rintro _ _ ⟨rfl, rfl⟩
      refine o_move ?_
      refine o_extract rfl rfl ?_
      refine o_extract rfl rfl ?_
      refine o_alloc fun p3 => ?_
      refine o_store (v := (o2.getD ElemD.zero).val) rfl rfl rfl rfl rfl ?_
      refine o_assign ?_
      refine g_end (G.imp (hQ_ .normal _) ?_)
      clear hQ_ Q_
      try refine g_then ?_
      refine G.norm p3 (o2.getD ElemD.zero).val.cells rfl ?_
      repeat (first | refine g_endt ?_ | refine g_end ?_ | refine g_then ?_ | refine g_in_normal ?_ | refine g_then_ret ?_ | refine g_in_ret ?_ | refine g_then_exit ?_ | refine g_in_exit rfl ?_ | refine g_in_exit_ne (by decide) ?_ | refine g_seq ?_ | refine g_region ?_ | refine g_block ?_ | refine g_ret ?_ | refine g_return_n ?_ | refine g_exit ?_ | refine g_skip ?_)
      refine g_hideR fun Q_ hQ_ => ?_
      refine o_move ?_
      refine o_move ?_
      refine o_call (RGet_spec r 0 0 S5 c5 R.ts tag (by omega) ho2) rfl rfl ?_
      rintro _ _ ⟨rfl, rfl⟩
      refine o_move ?_
      refine o_extract rfl rfl ?_
      refine o_extract rfl rfl ?_
      refine o_alloc fun p4 => ?_
      refine o_store (v := (o2.getD ElemD.zero).val) rfl rfl rfl rfl rfl ?_
      refine o_assign ?_
      refine g_end (G.imp (hQ_ .normal _) ?_)
      clear hQ_ Q_
      try refine g_then ?_
      refine G.norm p4 (o2.getD ElemD.zero).val.cells rfl ?_
      refine g_keep [(6, .pointer (some ⟨bi, 0, none⟩)), (7, .pointer (some ⟨ba, 0, none⟩)), (11, .pointer (some ⟨s, 0, none⟩)), (14, .slice U (keyD ElemD.id ss id).length u), (15, .slice V (keyD ElemD.attr ss attr).length v), (18, .pointer (some ⟨p1, 0, none⟩)), (19, .bool o1.isSome), (20, .pointer (some ⟨p2, 0, none⟩)), (21, .bool o1.isSome), (23, .pointer (some ⟨p3, 0, none⟩)), (24, .bool o2.isSome), (25, .pointer (some ⟨p4, 0, none⟩)), (26, .bool o2.isSome)] ⟨rfl, rfl, rfl, rfl, rfl, rfl, rfl, rfl, rfl, rfl, rfl, rfl, rfl, trivial⟩ fun ρ4 => ?_
      refine openSt s 100 R.next R.ts fun a ys hst => ?_
      have hys : ss = ys := by rw [hst.sort, hss]
      subst hys
      have hki := keyD_len ElemD.id ss id
      have hka := keyD_len ElemD.attr ss attr
      repeat (first | refine g_endt ?_ | refine g_end ?_ | refine g_then ?_ | refine g_in_normal ?_ | refine g_then_ret ?_ | refine g_in_ret ?_ | refine g_then_exit ?_ | refine g_in_exit rfl ?_ | refine g_in_exit_ne (by decide) ?_ | refine g_seq ?_ | refine g_region ?_ | refine g_block ?_ | refine g_ret ?_ | refine g_return_n ?_ | refine g_exit ?_ | refine g_skip ?_)
      refine g_hideR fun Q_ hQ_ => ?_
      refine o_move ?_
      refine o_loadN (v := id.val) rfl rfl rfl ?_
      refine o_call (OfSt_spec s 100 R.next a id) rfl rfl ?_
      rintro _ _ ⟨g1, g2, rfl, rfl⟩
      refine o_call (ListE_spec 76 [.pointer (some ⟨g1, 0, none⟩), .pointer (some ⟨g2, 0, none⟩)] (keyD ElemD.id ss id) rfl (by omega) [IdxP a.pi ElemD.id ss, pM g1 a.pi, pK g2 id] (fun K => those_iter a.pi g1 g2 ElemD.id ss id (by omega) _)) rfl rfl ?_
      rintro _ _ ⟨S6, c6, rfl, rfl⟩
      (refine G.bring [oE S6 c6 (keyD ElemD.id ss id)] ?_; refine G.frz ?_)
      refine o_move ?_
      refine o_callp (Elems_spec S6 U (keyD ElemD.id ss id).length c6 u (keyD ElemD.id ss id) rfl (by omega)) rfl rfl ?_
      rintro _ _ ⟨rfl, rfl⟩
      refine o_move ?_
      first | (refine o_want rfl rfl rfl rfl rfl ?_; refine o_move ?_) | refine o_unwanted rfl rfl rfl rfl rfl ?_ | refine o_undef rfl rfl rfl ?_
      refine o_want rfl rfl rfl rfl rfl (o_loadN (v := attr.val) rfl rfl rfl ?_)
      refine o_want rfl rfl rfl rfl rfl (o_call (WithSt_spec s 100 R.next a attr) rfl rfl ?_)
      rintro _ _ ⟨g3, g4, rfl, rfl⟩
      refine o_want rfl rfl rfl rfl rfl (o_call (ListE_spec 76 [.pointer (some ⟨g3, 0, none⟩), .pointer (some ⟨g4, 0, none⟩)] (keyD ElemD.attr ss attr) rfl (by omega) [IdxP a.pr ElemD.attr ss, pM g3 a.pr, pK g4 attr] (fun K => those_iter a.pr g3 g4 ElemD.attr ss attr (by omega) _)) rfl rfl ?_)
      rintro _ _ ⟨S7, c7, rfl, rfl⟩
      (refine G.bring [oE S7 c7 (keyD ElemD.attr ss attr)] ?_; refine G.frz ?_)
      first | (refine o_want rfl rfl rfl rfl rfl ?_; refine o_move ?_) | refine o_unwanted rfl rfl rfl rfl rfl ?_ | refine o_undef rfl rfl rfl ?_
      refine o_want rfl rfl rfl rfl rfl (o_callp (Elems_spec S7 V (keyD ElemD.attr ss attr).length c7 v (keyD ElemD.attr ss attr) rfl (by omega)) rfl rfl ?_)
      rintro _ _ ⟨rfl, rfl⟩
      first | refine o_pick_t rfl rfl ?_ | refine o_pick_f rfl rfl ?_
      refine o_move ?_
      refine o_want rfl rfl rfl rfl rfl (o_loadN (v := (o1.getD ElemD.zero).val) rfl rfl rfl ?_)
      refine o_want rfl rfl rfl rfl rfl (o_loadN (v := (o1.getD ElemD.zero).val) rfl rfl rfl ?_)
      refine o_want rfl rfl rfl rfl rfl (o_eqty rfl rfl (eq_elem_self (o1.getD ElemD.zero)) ?_)
      first | refine o_pick_t rfl rfl ?_ | refine o_pick_f rfl rfl ?_
      refine o_move ?_
      first | (refine o_want rfl rfl rfl rfl rfl ?_; refine o_move ?_) | refine o_unwanted rfl rfl rfl rfl rfl ?_ | refine o_undef rfl rfl rfl ?_
      first | (refine o_want rfl rfl rfl rfl rfl ?_; refine o_move ?_) | refine o_unwanted rfl rfl rfl rfl rfl ?_ | refine o_undef rfl rfl rfl ?_
      refine o_want rfl rfl rfl rfl rfl (o_eqty rfl rfl (eq_bool_self o1.isSome) ?_)
      first | refine o_pick_t rfl rfl ?_ | refine o_pick_f rfl rfl ?_
      refine o_move ?_
      refine o_want rfl rfl rfl rfl rfl (o_loadN (v := (o2.getD ElemD.zero).val) rfl rfl rfl ?_)
      refine o_want rfl rfl rfl rfl rfl (o_loadN (v := (o2.getD ElemD.zero).val) rfl rfl rfl ?_)
      refine o_want rfl rfl rfl rfl rfl (o_eqty rfl rfl (eq_elem_self (o2.getD ElemD.zero)) ?_)
      first | refine o_pick_t rfl rfl ?_ | refine o_pick_f rfl rfl ?_
      refine o_move ?_
      first | (refine o_want rfl rfl rfl rfl rfl ?_; refine o_move ?_) | refine o_unwanted rfl rfl rfl rfl rfl ?_ | refine o_undef rfl rfl rfl ?_
      first | (refine o_want rfl rfl rfl rfl rfl ?_; refine o_move ?_) | refine o_unwanted rfl rfl rfl rfl rfl ?_ | refine o_undef rfl rfl rfl ?_
      refine o_want rfl rfl rfl rfl rfl (o_eqty rfl rfl (eq_bool_self o2.isSome) ?_)
      first | refine o_pick_t rfl rfl ?_ | refine o_pick_f rfl rfl ?_
      refine o_move ?_
      refine o_want rfl rfl rfl rfl rfl (o_call (wakes10_spec) rfl rfl ?_)
      rintro _ _ ⟨rfl, rfl⟩
      first | refine o_pick_t rfl rfl ?_ | refine o_pick_f rfl rfl ?_
      refine o_assign ?_
      refine g_end (G.imp (hQ_ .normal _) ?_)
      clear hQ_ Q_
      try refine g_then ?_
      repeat (first | refine g_endt ?_ | refine g_end ?_ | refine g_then ?_ | refine g_in_normal ?_ | refine g_then_ret ?_ | refine g_in_ret ?_ | refine g_then_exit ?_ | refine g_in_exit rfl ?_ | refine g_in_exit_ne (by decide) ?_ | refine g_seq ?_ | refine g_region ?_ | refine g_block ?_ | refine g_ret ?_ | refine g_return_n ?_ | refine g_exit ?_ | refine g_skip ?_)
      exact ret1 (K := []) rfl (resT rfl) ⟨rfl, rfl⟩
end Go.Proofs.Ytdpbjoldgiikkaa
/- From a contract to a row: arguments opened, what a law leaves behind. Plain library, no program in sight. -/
namespace Go.Sl
open Go Go.Proofs Go.RowKit Go.ChangeShapes Go.WideShapes

theorem law_calls {P : Program} {f : FuncId} {args : List Value} {K : List SProp} {R : Value → List SProp → Prop} {W : World} (sp : Ctr P f args K R) (hK : holds (star (whole W) (sl K)) W) :
    Calls P f args.toArray W fun e W' => ∃ v L', e = .returned v ∧ R v L' ∧ Below W.heap.size W W' :=
  (sp W (whole W) hK).mono fun e W' ⟨v, L', he, hr, hh, hs⟩ => ⟨v, L', he, hr, hs.os, hs.tape, hs.output, hs.size, fun k hk => by
    have l : Le (hp W) (hp W') := (sees_whole W).left W' hh
    have h1 : hp W k = some W.heap[k] := by show W.heap[k]? = _; simp [hk]
    have h2 := l k _ h1
    show hp W' k = hp W k
    rw [h1, h2]⟩
theorem holds_nil (W : World) : holds (star (whole W) (sl [])) W := (holds_whole W).ent ((Ent.emp_left (whole W)).trans (Ent.comm _ _))
theorem holds_psl {W : World} {K : List SProp} {α : Type} {enc : α → List Value} {sz : Nat} {A : Option Addr} {ys : List α} (h : holds (star (whole W) (sl K)) W) (r : rdE A enc sz ys (hp W)) : holds (star (whole W) (sl (psl enc sz A ys :: K))) W := by
  obtain ⟨B, k, d, l, m, k1, k2, d12, l1, l2, x, y⟩ := h
  exact ⟨B, k, d, l, m, k1, k2, d12, l1, l2, x, hnil, k2, (Dj.nil _).symm, .nil _, .refl _, rdE.le r x, y⟩

section
variable {H : Type} {enc : TypeId × Value → H} {P : Program}
theorem trodAll_stays (hl : laidOutB P = true) {W W' : World} {sp : Nat → Bool} : ∀ {ts : List TypeId} {vs : List Value} {ds : List (DataW H)} {ps : List MemPlace}, (∀ t ∈ ts, P.readableRec t = true ∧ t < P.types.size) →
    DataW.TrodAll enc P W 0 (fun _ => true) true ts vs ds ps → (∀ p ∈ ps, W.sameAt W' p) → (∀ p ∈ ps, sp p.block = true) → DataW.TrodAll enc P W' 0 sp true ts vs ds ps
  | [], [], [], _, _, h, _, _ => h
  | t :: ts, v :: vs, d :: ds, _, hr, ⟨p, q, h1, h2, rfl⟩, hb, hs => ⟨p, q, WideElems.Trod_stays hl (hr t List.mem_cons_self).1 (hr t List.mem_cons_self).2 h1 (fun x hx => hb x (List.mem_append_left _ hx)) (fun x hx => hs x (List.mem_append_left _ hx)),
    trodAll_stays hl (fun u hu => hr u (List.mem_cons_of_mem _ hu)) h2 (fun x hx => hb x (List.mem_append_right _ hx)) (fun x hx => hs x (List.mem_append_right _ hx)), rfl⟩
/-- A law that answers true, and behind which nothing has turned that was there. -/
theorem post_law {f : Func} {s : ChangeSpec} {apart fresh handsOn again : Bool} {W W' : World} {args : Array Value} {ds gs : List (DataW H)} {before : List MemPlace} {tb : TypeId}
    (hW : DataW.Whole enc P f.params.toList s.vars apart W args.toList ds gs before) (hl : laidOutB P = true) (hvs : s.vars = [])
    (hs : s.fn H ds = { results := [.lit (.bool true)], args := ds }) (hr : f.resultTypes = #[tb]) (ht : P.underlying tb = some .bool)
    (hrow : ∀ t ∈ f.params.toList, P.readableRec t = true ∧ t < P.types.size) (hb : Below W.heap.size W W') :
    s.post enc P f apart fresh handsOn again W args (.bool true) W' := by
  have hlt : ∀ p ∈ before, p.block < W.heap.size := fun p hp => hW.lt p hp
  have hW0 := hW
  obtain ⟨p, q, hA, hV, rfl, hz, hn⟩ := hW
  have hgq : gs = [] ∧ q = [] := by
    rw [hvs] at hV
    cases gs with
    | nil => exact ⟨rfl, hV⟩
    | cons g gs => exact hV.elim
  obtain ⟨rfl, rfl⟩ := hgq
  simp only [List.append_nil] at hlt hz hn hW0
  have hsp : s.fn H (ds ++ []) = { results := [.lit (.bool true)], args := ds } := by rw [List.append_nil]; exact hs
  have hargs : ∀ sp : Nat → Bool, (∀ x ∈ p, sp x.block = true) → DataW.TrodAll enc P W' 0 sp true f.params.toList args.toList ds p :=
    fun sp h => trodAll_stays hl hrow hA (fun x hx => hb.same (hlt x hx)) h
  have hold : ∀ x ∈ p, decide (x.block < W.heap.size) = true := fun x hx => by simpa using hlt x hx
  have hvr : ∀ (sp : Nat → Bool), DataW.TrodVars enc P W' sp s.vars [] [] := fun sp => by rw [hvs]; exact rfl
  have hres : ∀ (b : Nat) (sp : Nat → Bool) (hd : Bool), DataW.TrodAll enc P W' b sp hd f.resultTypes.toList ((Value.bool true).resultList f.resultTypes.size) [.lit (.bool true)] [] := fun b sp hd => by
    rw [hr]
    exact trodAll_mk1 (shut_bool ht true)
  refine ⟨ds, [], p, [], p, [], hW0, by rw [hsp]; exact hres _ _ _, by rw [hsp]; exact hargs _ hold, by rw [hsp]; exact hvr _, World.keptBut_mono (fun x hx => ⟨hx, .inr (.inl hx)⟩) (hb.frame (· ∈ p)), fun _ => ⟨?_, ?_⟩⟩
  · exact ok_one hr rfl (okWide_bool_mk ht true)
  · refine ⟨_, [], ([] ++ p), ⟨[] ++ p, [], trodAll_append (hargs _ (fun _ _ => rfl)) (hres _ _ _), hvr _, by simp, ?_, ?_⟩, ?_⟩
    · intro b off hp
      have hin : MemPlace.cell b off ∈ p := by simpa using hp
      rw [hb.frozen (hlt _ hin)]
      exact hz b off hin
    · intro ha
      simpa using hn ha
    · intro x hx _
      simpa using hx

/-! ### Slices among the arguments -/
theorem mapM_get {α β : Type} {f : α → Option β} : ∀ {l : List α} {r : List β}, l.mapM f = some r → ∀ (i : Nat) (x : α), l[i]? = some x → ∃ y, r[i]? = some y ∧ f x = some y
  | [], r, h, i, x, hx => by simp at hx
  | a :: l, r, h, i, x, hx => by
    rw [List.mapM_cons] at h
    cases ha : f a with
    | none => rw [ha] at h; cases h
    | some b =>
      rw [ha] at h
      cases hr : l.mapM f with
      | none => rw [hr] at h; cases h
      | some r' =>
        rw [hr] at h
        cases h
        cases i with
        | zero => simp at hx; subst hx; exact ⟨b, rfl, ha⟩
        | succ i => exact mapM_get hr i x (by simpa using hx)
theorem cells_get {w : World} {a : Addr} {n : Nat} {cs : List Value} (h : w.cells? 0 a n = some cs) {j : Nat} {u : Value} (hu : cs[j]? = some u) : w.cell? (a.add j) = some u := by
  simp only [World.cells?, Nat.zero_le, if_true] at h
  have hl : cs.length = n := by have := mapM_some_length h; simpa using this
  have hj : j < n := by rw [← hl]; exact (List.getElem?_eq_some_iff.1 hu).1
  obtain ⟨y, h1, h2⟩ := mapM_get h j j (by simp [hj])
  rw [h1] at hu
  cases hu
  exact h2
theorem cellH_of_cell {w : World} {a : Addr} {u : Value} (h : w.cell? a = some u) : a.spot = none ∧ cellH (hp w) a.block a.off = some u := by
  unfold World.cell? at h
  unfold cellH hp
  cases hb : w.heap[a.block]? with
  | none => rw [hb] at h; cases h
  | some o =>
    rw [hb] at h
    cases o with
    | cells c t fr =>
      cases hs : a.spot with
      | none => simp [hs] at h; exact ⟨rfl, h⟩
      | some s => simp [hs] at h
    | _ => cases h
/-- A slice's one cell; its elements, told by what each element's cells are; that they lie there for ever. -/
theorem open_cs {t e : TypeId} {W : World} {fuel : Nat} {cs : List Value} {x : DataW H × List MemPlace} {α : Type} {en : α → List Value} {sz : Nat} {Pr : α → Prop} [el : EncLen en sz] (ht : P.underlying t = some (.slice e)) (hc : P.cellsOf e = sz) (hsz : 0 < sz)
    (he : ∀ n cs x, DataW.trod enc P W 0 (fun _ => true) true n e cs = some x → ∃ y : α, cs = en y ∧ Pr y) (hf : DataW.trod enc P W 0 (fun _ => true) true fuel t cs = some x) :
    ∃ (A : Option Addr) (len cap : Nat) (ys : List α), cs = [.slice A len cap] ∧ ys.length = len ∧ len ≤ maxLen ∧ rdE A en sz ys (hp W) ∧ ∀ y ∈ ys, Pr y := by
  rcases Go.Deep.open_slice ht hf with ⟨h1, _⟩ | ⟨a, len, cap, m, n, D, Pl, h1, _, hl, hm, hmm, _, hel⟩
  · exact ⟨none, 0, 0, [], h1, rfl, Nat.zero_le _, fun i y hy => by simp at hy, fun y hy => by simp at hy⟩
  · simp only [if_true] at hmm
    have key : ∀ i, i < len → ∃ y : α, (∀ j u, (en y)[j]? = some u → W.cell? ((a.add (i * sz)).add j) = some u) ∧ Pr y := fun i hi => by
      obtain ⟨cs', h2, h3⟩ := hel i (by omega)
      obtain ⟨y, rfl, hy⟩ := he n cs' _ h3
      rw [hc] at h2
      exact ⟨y, fun j u hu => cells_get h2 hu, hy⟩
    refine ⟨some a, len, cap, List.ofFn (fun i : Fin len => Classical.choose (key i.1 i.2)), h1, by simp, by omega, ?_, ?_⟩
    · intro i y hy
      have hi : i < len := by have := (List.getElem?_eq_some_iff.1 hy).1; simpa using this
      have hy' : y = Classical.choose (key i hi) := by simpa [hi] using hy.symm
      have hcs := (Classical.choose_spec (key i hi)).1
      rw [← hy'] at hcs
      have hs : a.spot = none := by
        obtain ⟨y0, hy0, _⟩ := key 0 (by omega)
        have hne : 0 < (en y0).length := by rw [el.len]; exact hsz
        have h0 := (cellH_of_cell (hy0 0 _ (List.getElem?_eq_getElem hne))).1
        simpa [Addr.add] using h0
      obtain ⟨b, k, sp⟩ := a
      dsimp only at hs
      subst hs
      refine ⟨b, k, rfl, fun j u hu => ?_⟩
      have h1 := (cellH_of_cell (hcs j u hu)).2
      simpa [add_off, Nat.add_assoc] using h1
    · intro y hy
      obtain ⟨i, rfl⟩ := List.mem_ofFn.1 hy
      exact (Classical.choose_spec (key i.1 i.2)).2
/-- A slice that is read. -/
theorem open_pslP {t e : TypeId} {v : Value} {d : DataW H} {ps : List MemPlace} {W : World} {α : Type} {en : α → List Value} {sz : Nat} {Pr : α → Prop} [el : EncLen en sz] (ht : P.underlying t = some (.slice e)) (hc : P.cellsOf e = sz) (hsz : 0 < sz)
    (he : ∀ n cs x, DataW.trod enc P W 0 (fun _ => true) true n e cs = some x → ∃ y : α, cs = en y ∧ Pr y) {b0 : Nat} (hv : Value.okWide P W .any b0 t v) (h : DataW.Trod enc P W 0 (fun _ => true) true t v d ps) :
    ∃ (A : Option Addr) (len cap : Nat) (ys : List α), v = .slice A len cap ∧ ys.length = len ∧ len ≤ maxLen ∧ rdE A en sz ys (hp W) ∧ ∀ y ∈ ys, Pr y := by
  obtain ⟨fuel, hf⟩ := h
  obtain ⟨a0, len0, cap0, rfl⟩ := okWide_slice ht hv
  obtain ⟨A, len, cap, ys, h1, h2⟩ := open_cs ht hc hsz he hf
  simp only [Value.cells, List.cons.injEq, and_true] at h1
  exact ⟨A, len, cap, ys, h1, h2⟩
theorem open_psl {t e : TypeId} {v : Value} {d : DataW H} {ps : List MemPlace} {W : World} {α : Type} {en : α → List Value} {sz : Nat} [el : EncLen en sz] (ht : P.underlying t = some (.slice e)) (hc : P.cellsOf e = sz) (hsz : 0 < sz)
    (he : ∀ n cs x, DataW.trod enc P W 0 (fun _ => true) true n e cs = some x → ∃ y : α, cs = en y) {b0 : Nat} (hv : Value.okWide P W .any b0 t v) (h : DataW.Trod enc P W 0 (fun _ => true) true t v d ps) :
    ∃ (A : Option Addr) (len cap : Nat) (ys : List α), v = .slice A len cap ∧ ys.length = len ∧ len ≤ maxLen ∧ rdE A en sz ys (hp W) :=
  let ⟨A, len, cap, ys, h1, h2, h3, h4, _⟩ := open_pslP (Pr := fun _ => True) ht hc hsz (fun n cs x hx => let ⟨y, hy⟩ := he n cs x hx; ⟨y, hy, trivial⟩) hv h
  ⟨A, len, cap, ys, h1, h2, h3, h4⟩
/-- A slice's room. -/
theorem open_cap {t e : TypeId} {v : Value} {d : DataW H} {ps : List MemPlace} {W : World} (ht : P.underlying t = some (.slice e)) (h : DataW.Trod enc P W 0 (fun _ => true) true t v d ps) : ∀ A len cap, v = .slice A len cap → len ≤ cap := by
  rintro A len cap rfl
  obtain ⟨fuel, hf⟩ := h
  rcases DataW.trod_slice ht hf with ⟨h1, _⟩ | ⟨a, len', cap', _, _, n, _, h1, _, _, hl, _⟩
  · simp [Value.cells] at h1
    obtain ⟨_, rfl, rfl⟩ := h1
    exact Nat.le_refl _
  · simp [Value.cells] at h1
    obtain ⟨_, rfl, rfl⟩ := h1
    exact hl
end
end Go.Sl
