/- An ordered map's keys and values as lists. -/
import Derived.Test.YtlognaddmbolgaaK4
import Derived.Test.YtlognaddmbolgaaMSI2
namespace Go.Proofs.Ytlognaddmbolgaa
open Go Go.Sl
attribute [local irreducible] Code.wpIn roundPost bodyPostM runL Ret Meets Begin

theorem FromSI0_spec (m : Nat) (k : SymD) : Ctr Try.prog 68 [.pointer (some ⟨m, 0, none⟩), k.val] [] (fun _ M => M = []) := by
  refine spec_of Try.func68 rfl Try.ntmps68 rfl fun w0 F => ?_
  repeat (first | refine g_endt ?_ | refine g_end ?_ | refine g_then ?_ | refine g_in_normal ?_ | refine g_then_ret ?_ | refine g_in_ret ?_ | refine g_then_exit ?_ | refine g_in_exit rfl ?_ | refine g_in_exit_ne (by decide) ?_ | refine g_seq ?_ | refine g_region ?_ | refine g_block ?_ | refine g_ret ?_ | refine g_return_n ?_ | refine g_exit ?_ | refine g_skip ?_)
  refine o_boxc #[.pointer (some ⟨m, 0, none⟩)] rfl rfl fun b => ?_
  refine o_boxc k.val.cells rfl rfl fun c => ?_
  refine o_assign ?_
  refine g_endt ?_
  repeat (first | refine g_endt ?_ | refine g_end ?_ | refine g_then ?_ | refine g_in_normal ?_ | refine g_then_ret ?_ | refine g_in_ret ?_ | refine g_then_exit ?_ | refine g_in_exit rfl ?_ | refine g_in_exit_ne (by decide) ?_ | refine g_seq ?_ | refine g_region ?_ | refine g_block ?_ | refine g_ret ?_ | refine g_return_n ?_ | refine g_exit ?_ | refine g_skip ?_)
  refine o_func ?_
  refine o_assign ?_
  first | refine g_endt ?_ | refine g_end ?_
  repeat (first | refine g_endt ?_ | refine g_end ?_ | refine g_then ?_ | refine g_in_normal ?_ | refine g_then_ret ?_ | refine g_in_ret ?_ | refine g_then_exit ?_ | refine g_in_exit rfl ?_ | refine g_in_exit_ne (by decide) ?_ | refine g_seq ?_ | refine g_region ?_ | refine g_block ?_ | refine g_ret ?_ | refine g_return_n ?_ | refine g_exit ?_ | refine g_skip ?_)
  exact ret1 (K := []) rfl (resT rfl) rfl
/-- Two lists that grow, in two variables. -/
def PairsA (p q : Nat) (pre : List PgSI) : SProp := ex fun r : Option Addr × Nat × Option Addr × Nat =>
  sl [cellsB p #[.slice r.1 pre.length r.2.1] 35, osl 27 encS 3 r.1 r.2.1 (pre.map PgSI.k), cellsB q #[.slice r.2.2.1 pre.length r.2.2.2] 28, osl 3 encI 1 r.2.2.1 r.2.2.2 (pre.map PgSI.v)]
section
variable {w0 : World} {A : SProp} {L M : List SProp} {Φ : World → Prop}
theorem openP (p q : Nat) (pre : List PgSI) [tk : Take1 L (PairsA p q pre) M]
    (h : ∀ S c T d, G w0 A ([cellsB p #[.slice S pre.length c] 35, osl 27 encS 3 S c (pre.map PgSI.k), cellsB q #[.slice T pre.length d] 28, osl 3 encI 1 T d (pre.map PgSI.v)] ++ M) Φ) : G w0 A L Φ :=
  G.perm tk.perm (G.ex fun ⟨S, c, T, d⟩ => G.open_sl (h S c T d))
theorem shutP (p q : Nat) (pre : List PgSI) (S T : Option Addr) (c d : Nat) {n : Nat} (hn : pre.length = n)
    [tk : Take L [cellsB p #[.slice S n c] 35, osl 27 encS 3 S c (pre.map PgSI.k), cellsB q #[.slice T n d] 28, osl 3 encI 1 T d (pre.map PgSI.v)] M] (h : G w0 A (PairsA p q pre :: M) Φ) : G w0 A L Φ := by
  subst hn
  exact G.perm tk.perm (G.ent ((sl_append_to _ M).trans (Ent.star (show Ent _ (PairsA p q pre) from fun _ _ x => ⟨(S, c, T, d), x⟩) (Ent.refl _))) h)
end
theorem pairsAll_spec (m n : Nat) (ys : List PgSI) (k : SymD) (hn : ys.length ≤ n) (hl : ys.length ≤ 100000) : Ctr Try.prog 32 [.pointer (some ⟨m, 0, none⟩), k.val, .bool true, .int .i64 (n : Int)] [MapASI m ys]
    (fun v M => ∃ S c T d, v = .tuple #[.slice S ys.length c, .slice T ys.length d] ∧ M = [MapASI m ys, osl 27 encS 3 S c (ys.map PgSI.k), osl 3 encI 1 T d (ys.map PgSI.v)]) := by
  refine spec_of Try.func32 rfl Try.ntmps32 rfl fun w0 F => ?_
  repeat (first | refine g_endt ?_ | refine g_end ?_ | refine g_then ?_ | refine g_in_normal ?_ | refine g_then_ret ?_ | refine g_in_ret ?_ | refine g_then_exit ?_ | refine g_in_exit rfl ?_ | refine g_in_exit_ne (by decide) ?_ | refine g_seq ?_ | refine g_region ?_ | refine g_block ?_ | refine g_ret ?_ | refine g_return_n ?_ | refine g_exit ?_ | refine g_skip ?_)
  refine o_boxc k.val.cells rfl rfl fun b => ?_
  refine o_boxc #[.int .i64 (n : Int)] rfl rfl fun bn => ?_
  refine o_assign ?_
  refine o_assign ?_
  refine g_endt ?_
  repeat (first | refine g_endt ?_ | refine g_end ?_ | refine g_then ?_ | refine g_in_normal ?_ | refine g_then_ret ?_ | refine g_in_ret ?_ | refine g_then_exit ?_ | refine g_in_exit rfl ?_ | refine g_in_exit_ne (by decide) ?_ | refine g_seq ?_ | refine g_region ?_ | refine g_block ?_ | refine g_ret ?_ | refine g_return_n ?_ | refine g_exit ?_ | refine g_skip ?_)
  refine o_alloc fun p => ?_
  refine g_endt ?_
  repeat (first | refine g_endt ?_ | refine g_end ?_ | refine g_then ?_ | refine g_in_normal ?_ | refine g_then_ret ?_ | refine g_in_ret ?_ | refine g_then_exit ?_ | refine g_in_exit rfl ?_ | refine g_in_exit_ne (by decide) ?_ | refine g_seq ?_ | refine g_region ?_ | refine g_block ?_ | refine g_ret ?_ | refine g_return_n ?_ | refine g_exit ?_ | refine g_skip ?_)
  refine o_alloc fun q => ?_
  refine g_endt ?_
  repeat (first | refine g_endt ?_ | refine g_end ?_ | refine g_then ?_ | refine g_in_normal ?_ | refine g_then_ret ?_ | refine g_in_ret ?_ | refine g_then_exit ?_ | refine g_in_exit rfl ?_ | refine g_in_exit_ne (by decide) ?_ | refine g_seq ?_ | refine g_region ?_ | refine g_block ?_ | refine g_ret ?_ | refine g_return_n ?_ | refine g_exit ?_ | refine g_skip ?_)
  refine o_move ?_
  refine o_loadN (v := k.val) rfl rfl rfl ?_
  refine o_call (FromSI0_spec m k) rfl rfl ?_
  rintro v0 _ rfl
  refine o_assign ?_
  refine g_endt ?_
  repeat (first | refine g_endt ?_ | refine g_end ?_ | refine g_then ?_ | refine g_in_normal ?_ | refine g_then_ret ?_ | refine g_in_ret ?_ | refine g_then_exit ?_ | refine g_in_exit rfl ?_ | refine g_in_exit_ne (by decide) ?_ | refine g_seq ?_ | refine g_region ?_ | refine g_block ?_ | refine g_ret ?_ | refine g_return_n ?_ | refine g_exit ?_ | refine g_skip ?_)
  refine o_move ?_
  refine g_endt ?_
  first | refine g_seq (g_cond_t rfl (rfl) ?_) | refine g_cond_t rfl (rfl) ?_
  repeat (first | refine g_endt ?_ | refine g_end ?_ | refine g_then ?_ | refine g_in_normal ?_ | refine g_then_ret ?_ | refine g_in_ret ?_ | refine g_then_exit ?_ | refine g_in_exit rfl ?_ | refine g_in_exit_ne (by decide) ?_ | refine g_seq ?_ | refine g_region ?_ | refine g_block ?_ | refine g_ret ?_ | refine g_return_n ?_ | refine g_exit ?_ | refine g_skip ?_)
  refine o_move ?_
  refine o_call (AllMSI_spec m) rfl rfl ?_
  rintro _ _ ⟨b2, rfl, rfl⟩
  refine o_assign ?_
  refine g_end ?_
  repeat (first | refine g_endt ?_ | refine g_end ?_ | refine g_then ?_ | refine g_in_normal ?_ | refine g_then_ret ?_ | refine g_in_ret ?_ | refine g_then_exit ?_ | refine g_in_exit rfl ?_ | refine g_in_exit_ne (by decide) ?_ | refine g_seq ?_ | refine g_region ?_ | refine g_block ?_ | refine g_ret ?_ | refine g_return_n ?_ | refine g_exit ?_ | refine g_skip ?_)
  refine o_move ?_
  refine o_fnil rfl (fun w => by kernel_rfl) (fun w => by kernel_rfl) ?_
  refine g_endt ?_
  first | refine g_seq (g_cond_f rfl (rfl) ?_) | refine g_cond_f rfl (rfl) ?_
  repeat (first | refine g_endt ?_ | refine g_end ?_ | refine g_then ?_ | refine g_in_normal ?_ | refine g_then_ret ?_ | refine g_in_ret ?_ | refine g_then_exit ?_ | refine g_in_exit rfl ?_ | refine g_in_exit_ne (by decide) ?_ | refine g_seq ?_ | refine g_region ?_ | refine g_block ?_ | refine g_ret ?_ | refine g_return_n ?_ | refine g_exit ?_ | refine g_skip ?_)
  refine o_move ?_
  refine g_endt ?_
  refine G.nil_slice 3 encI 1 ?_
  refine G.nil_slice 27 encS 3 ?_
  refine G.norm p #[.slice none 0 0] rfl ?_
  refine G.norm q #[.slice none 0 0] rfl ?_
  refine shutP p q [] none none 0 0 (n := 0) rfl (tk := (inferInstance : Take _ [cellsB p #[.slice none 0 0] 35, osl 27 encS 3 none 0 [], cellsB q #[.slice none 0 0] 28, osl 3 encI 1 none 0 []] _)) ?_
  repeat (first | refine g_endt ?_ | refine g_end ?_ | refine g_then ?_ | refine g_in_normal ?_ | refine g_then_ret ?_ | refine g_in_ret ?_ | refine g_then_exit ?_ | refine g_in_exit rfl ?_ | refine g_in_exit_ne (by decide) ?_ | refine g_seq ?_ | refine g_region ?_ | refine g_block ?_ | refine g_ret ?_ | refine g_return_n ?_ | refine g_exit ?_ | refine g_skip ?_)
  refine g_range (ps := [24, 25]) (lb := [.pointer (some ⟨b2, 0, none⟩)]) (enc := PgSI.enc2) (xs := ys) rfl
    (fun pre => [PairsA p q pre, cellsB bn #[.int .i64 (n : Int)] 3, MapASI m ys, pblk b2 (.cells #[.pointer (some ⟨m, 0, none⟩)] 36 (0, 0))]) (fun _ _ => [pu False])
    (fun K => AllM1SI_iter m b2 ys (by omega) _) (fun _ => rfl) ?_ ?_ ?_
  · intro w0 F l r pre x hp
    have hlen : pre.length < ys.length := by
      obtain ⟨t, ht⟩ := hp
      have := congrArg List.length ht
      simp at this
      omega
    repeat (first | refine g_endt ?_ | refine g_end ?_ | refine g_then ?_ | refine g_in_normal ?_ | refine g_then_ret ?_ | refine g_in_ret ?_ | refine g_then_exit ?_ | refine g_in_exit rfl ?_ | refine g_in_exit_ne (by decide) ?_ | refine g_seq ?_ | refine g_region ?_ | refine g_block ?_ | refine g_ret ?_ | refine g_return_n ?_ | refine g_exit ?_ | refine g_skip ?_)
    refine o_alloc fun c => ?_
    refine o_store (v := x.k.val) rfl rfl rfl rfl rfl ?_
    refine g_endt ?_
    refine G.norm c x.k.val.cells rfl ?_
    repeat (first | refine g_endt ?_ | refine g_end ?_ | refine g_then ?_ | refine g_in_normal ?_ | refine g_then_ret ?_ | refine g_in_ret ?_ | refine g_then_exit ?_ | refine g_in_exit rfl ?_ | refine g_in_exit_ne (by decide) ?_ | refine g_seq ?_ | refine g_region ?_ | refine g_block ?_ | refine g_ret ?_ | refine g_return_n ?_ | refine g_exit ?_ | refine g_skip ?_)
    refine o_assign ?_
    refine g_endt ?_
    repeat (first | refine g_endt ?_ | refine g_end ?_ | refine g_then ?_ | refine g_in_normal ?_ | refine g_then_ret ?_ | refine g_in_ret ?_ | refine g_then_exit ?_ | refine g_in_exit rfl ?_ | refine g_in_exit_ne (by decide) ?_ | refine g_seq ?_ | refine g_region ?_ | refine g_block ?_ | refine g_ret ?_ | refine g_return_n ?_ | refine g_exit ?_ | refine g_skip ?_)
    refine g_begin ?_
    repeat (first | refine g_endt ?_ | refine g_end ?_ | refine g_then ?_ | refine g_in_normal ?_ | refine g_then_ret ?_ | refine g_in_ret ?_ | refine g_then_exit ?_ | refine g_in_exit rfl ?_ | refine g_in_exit_ne (by decide) ?_ | refine g_seq ?_ | refine g_region ?_ | refine g_block ?_ | refine g_ret ?_ | refine g_return_n ?_ | refine g_exit ?_ | refine g_skip ?_)
    refine openP p q pre fun S e T d => ?_
    refine o_load1 (v := .slice S pre.length e) rfl rfl ?_
    refine o_len rfl rfl ?_
    refine o_load1 (v := .int .i64 (n : Int)) rfl rfl ?_
    refine o_geq rfl rfl ?_
    refine g_endt ?_
    first | refine g_seq (g_cond_f rfl (by simp; omega) ?_) | refine g_cond_f rfl (by simp; omega) ?_
    repeat (first | refine g_endt ?_ | refine g_end ?_ | refine g_then ?_ | refine g_in_normal ?_ | refine g_then_ret ?_ | refine g_in_ret ?_ | refine g_then_exit ?_ | refine g_in_exit rfl ?_ | refine g_in_exit_ne (by decide) ?_ | refine g_seq ?_ | refine g_region ?_ | refine g_block ?_ | refine g_ret ?_ | refine g_return_n ?_ | refine g_exit ?_ | refine g_skip ?_)
    refine o_load1 (v := .slice S pre.length e) rfl rfl ?_
    refine o_loadN (v := x.k.val) rfl rfl rfl ?_
    refine o_slice_lit (e := 27) x.k.val.cells (fun w => by kernel_rfl) fun g => ?_
    refine G.lit_slice (enc := encS) (sz := 3) [x.k] (by simp [encS]) (by simp [maxLen]) ?_
    refine G.freeze_slice ?_
    refine o_append (xs := pre.map PgSI.k) (ys := [x.k]) (by simp only [List.length_map]; rfl) rfl rfl rfl rfl (fun _ => .inr trivial) (by simp [maxLen]; omega) (by simp; omega) fun S2 e2 => ?_
    refine o_store (v := .slice S2 (pre.length + 1) e2) rfl (by simp only [List.length_map]; rfl) rfl rfl rfl ?_
    refine g_endt ?_
    refine G.norm p #[.slice S2 (pre.length + 1) e2] rfl ?_
    repeat (first | refine g_endt ?_ | refine g_end ?_ | refine g_then ?_ | refine g_in_normal ?_ | refine g_then_ret ?_ | refine g_in_ret ?_ | refine g_then_exit ?_ | refine g_in_exit rfl ?_ | refine g_in_exit_ne (by decide) ?_ | refine g_seq ?_ | refine g_region ?_ | refine g_block ?_ | refine g_ret ?_ | refine g_return_n ?_ | refine g_exit ?_ | refine g_skip ?_)
    refine o_load1 (v := .slice T pre.length d) rfl rfl ?_
    refine o_move ?_
    refine o_slice_lit (e := 3) #[.int .i64 x.v] (fun w => by kernel_rfl) fun g2 => ?_
    refine G.lit_slice (enc := encI) (sz := 1) [x.v] rfl (by simp [maxLen]) ?_
    refine G.freeze_slice ?_
    refine o_append (xs := pre.map PgSI.v) (ys := [x.v]) (by simp only [List.length_map]; rfl) rfl rfl rfl rfl (fun _ => .inr trivial) (by simp [maxLen]; omega) (by simp; omega) fun T2 d2 => ?_
    refine o_store (v := .slice T2 (pre.length + 1) d2) rfl (by simp only [List.length_map]; rfl) rfl rfl rfl ?_
    refine g_end ?_
    refine G.norm q #[.slice T2 (pre.length + 1) d2] rfl ?_
    have e1 : pre.map PgSI.k ++ [x.k] = (pre ++ [x]).map PgSI.k := by simp
    have e2' : pre.map PgSI.v ++ [x.v] = (pre ++ [x]).map PgSI.v := by simp
    rw [e1, e2']
    refine shutP p q (pre ++ [x]) S2 T2 e2 d2 (n := pre.length + 1) (by simp) ?_
    repeat (first | refine g_endt ?_ | refine g_end ?_ | refine g_then ?_ | refine g_in_normal ?_ | refine g_then_ret ?_ | refine g_in_ret ?_ | refine g_then_exit ?_ | refine g_in_exit rfl ?_ | refine g_in_exit_ne (by decide) ?_ | refine g_seq ?_ | refine g_region ?_ | refine g_block ?_ | refine g_ret ?_ | refine g_return_n ?_ | refine g_exit ?_ | refine g_skip ?_)
    exact g_next
  · intro D
    repeat (first | refine g_endt ?_ | refine g_end ?_ | refine g_then ?_ | refine g_in_normal ?_ | refine g_then_ret ?_ | refine g_in_ret ?_ | refine g_then_exit ?_ | refine g_in_exit rfl ?_ | refine g_in_exit_ne (by decide) ?_ | refine g_seq ?_ | refine g_region ?_ | refine g_block ?_ | refine g_ret ?_ | refine g_return_n ?_ | refine g_exit ?_ | refine g_skip ?_)
    refine openP p q ys fun S e T d => ?_
    refine g_draw [] [0,1,2,3] [cellsB p #[.slice S ys.length e] 35, cellsB q #[.slice T ys.length d] 28] mixed rfl ?_
    refine ob_q rfl rfl ⟨_, fun X Q h => o_load1 (v := .slice S ys.length e) rfl rfl (g_end (h _ _ ⟨rfl, rfl⟩)), ?_⟩
    refine ob_q rfl rfl ⟨_, fun X Q h => o_load1 (v := .slice T ys.length d) rfl rfl (g_end (h _ _ ⟨rfl, rfl⟩)), ?_⟩
    refine ob_q rfl rfl ⟨_, fun X Q h => o_assign (g_end (h _ _ ⟨rfl, rfl⟩)), ?_⟩
    refine ob_q rfl rfl ⟨_, fun X Q h => o_assign (g_end (h _ _ ⟨rfl, rfl⟩)), ?_⟩
    refine ob_nil ?_
    repeat (first | refine g_endt ?_ | refine g_end ?_ | refine g_then ?_ | refine g_in_normal ?_ | refine g_then_ret ?_ | refine g_in_ret ?_ | refine g_then_exit ?_ | refine g_in_exit rfl ?_ | refine g_in_exit_ne (by decide) ?_ | refine g_seq ?_ | refine g_region ?_ | refine g_block ?_ | refine g_ret ?_ | refine g_return_n ?_ | refine g_exit ?_ | refine g_skip ?_)
    exact ret2 rfl (resT rfl) (resT rfl) ⟨S, e, T, d, rfl, rfl⟩
  · intro D c pre hp
    exact G.pu fun h => h.elim
end Go.Proofs.Ytlognaddmbolgaa
