/- An ordered set's functions, for one type of members: told from a member on. -/
import Derived.Test.YtlognaddmbolgaaESI5
import Derived.Test.YtlognaddmbolgaaD4
import Derived.Test.YtlognaddmbolgaaSlA
namespace Go.Proofs.Ytlognaddmbolgaa
open Go Go.Sl
attribute [local irreducible] Code.wpIn roundPost bodyPostM runL Ret Meets Begin

theorem From1SI_iter (p b c : Nat) (ys : List PgSI) (x : PgSI) (hs : Srt PgSI.cmp ys) (hl : ys.length < 1000000000) (J0 : List SProp) {M : List SProp} [tk : Take1 J0 (SetASI p ys) M] [HasP J0 (pblk b (.cells #[.pointer (some ⟨p, 0, none⟩)] 105 (0, 0)))] [HasP J0 (pblk c (.cells x.val.cells 110 (0, 0)))] :
    Iter Try.prog 91 [.pointer (some ⟨b, 0, none⟩), .pointer (some ⟨c, 0, none⟩)] PgSI.enc' (ys.dropWhile fun y => decide (PgSI.cmp y x < 0)) J0 := by
  intro l J Jx hJ hy
  subst hJ
  refine spec_of Try.func91 rfl Try.ntmps91 rfl fun w0 F => ?_
  refine G.dup (pblk b (.cells #[.pointer (some ⟨p, 0, none⟩)] 105 (0, 0))) ?_
  refine G.dup (pblk c (.cells x.val.cells 110 (0, 0))) ?_
  have hO : Ent (sl (SetASI p ys :: M)) (sl (J [])) := sl_perm tk.perm.symm
  -- (*ponder/order.Set[ponder/book.page[ponder/api.Sym, int]]).From$1
  repeat (first | refine g_endt ?_ | refine g_end ?_ | refine g_then ?_ | refine g_in_normal ?_ | refine g_then_ret ?_ | refine g_in_ret ?_ | refine g_then_exit ?_ | refine g_in_exit rfl ?_ | refine g_in_exit_ne (by decide) ?_ | refine g_seq ?_ | refine g_region ?_ | refine g_block ?_ | refine g_ret ?_ | refine g_return_n ?_ | refine g_exit ?_ | refine g_skip ?_)
  first | refine o_load1 rfl rfl ?_ | refine o_loadE0 rfl (by assumption) rfl ?_ | refine o_loadE1 rfl (by assumption) rfl ?_
  refine o_pneq rfl ?_
  first | refine g_endt ?_ | refine g_end ?_
  first | refine g_seq (g_cond_t rfl (by first | rfl | (simp; done) | (simp; omega) | (simp; assumption)) ?_) | refine g_cond_t rfl (by first | rfl | (simp; done) | (simp; omega) | (simp; assumption)) ?_
  repeat (first | refine g_endt ?_ | refine g_end ?_ | refine g_then ?_ | refine g_in_normal ?_ | refine g_then_ret ?_ | refine g_in_ret ?_ | refine g_then_exit ?_ | refine g_in_exit rfl ?_ | refine g_in_exit_ne (by decide) ?_ | refine g_seq ?_ | refine g_region ?_ | refine g_block ?_ | refine g_ret ?_ | refine g_return_n ?_ | refine g_exit ?_ | refine g_skip ?_)
  first | refine o_load1 rfl rfl ?_ | refine o_loadE0 rfl (by assumption) rfl ?_ | refine o_loadE1 rfl (by assumption) rfl ?_
  refine o_loadN (v := x.val) rfl rfl rfl ?_
  refine o_call (findSI_spec p ys x hs (by omega)) rfl rfl ?_
  rintro _ _ ⟨k, there, rfl, rfl, hk⟩
  refine o_move ?_
  refine o_extract rfl rfl ?_
  refine o_extract rfl rfl ?_
  refine o_assign ?_
  refine o_assign ?_
  first | refine g_endt ?_ | refine g_end ?_
  have e := find_dropWhile PgSI.lin hs hk
  rw [← e] at hy ⊢
  have hc : Ctr Try.prog 81 [.pointer (some ⟨p, 0, none⟩), .int .i64 (k : Int), .func (.yield l) #[] #[]] (SetASI p ys :: M) _ :=
    fromSI_spec p k ys hl hk.1 l (Jin (SetASI p ys :: M) J) Jx (tk := ⟨.refl _⟩) (fun pre y hp => by rw [Jin_snoc]; exact (hy pre y hp).pre (Jin_ent hO pre))
  repeat (first | refine g_endt ?_ | refine g_end ?_ | refine g_then ?_ | refine g_in_normal ?_ | refine g_then_ret ?_ | refine g_in_ret ?_ | refine g_then_exit ?_ | refine g_in_exit rfl ?_ | refine g_in_exit_ne (by decide) ?_ | refine g_seq ?_ | refine g_region ?_ | refine g_block ?_ | refine g_ret ?_ | refine g_return_n ?_ | refine g_exit ?_ | refine g_skip ?_)
  first | refine o_load1 rfl rfl ?_ | refine o_loadE0 rfl (by assumption) rfl ?_ | refine o_loadE1 rfl (by assumption) rfl ?_
  refine o_move ?_
  refine o_move ?_
  refine o_call hc rfl rfl ?_
  rintro v L' hR
  first | refine g_endt ?_ | refine g_end ?_
  repeat (first | refine g_endt ?_ | refine g_end ?_ | refine g_then ?_ | refine g_in_normal ?_ | refine g_then_ret ?_ | refine g_in_ret ?_ | refine g_then_exit ?_ | refine g_in_exit rfl ?_ | refine g_in_exit_ne (by decide) ?_ | refine g_seq ?_ | refine g_region ?_ | refine g_block ?_ | refine g_ret ?_ | refine g_return_n ?_ | refine g_exit ?_ | refine g_skip ?_)
  rcases hR with rfl | ⟨pre, hp, rfl⟩
  · refine G.ent (L' := J (ys.drop k) ++ [pblk c (.cells x.val.cells 110 (0, 0)), pblk b (.cells #[.pointer (some ⟨p, 0, none⟩)] 105 (0, 0))]) ?_ (ret0 (K := J (ys.drop k)) rfl (.inl rfl))
    refine (sl_append_to _ _).trans (Ent.trans ?_ (sl_append_of _ _))
    exact (Jin_ent hO _).star (Ent.refl _)
  · exact ret0 (K := Jx pre) rfl (.inr ⟨pre, hp, rfl⟩)
theorem FromSI_spec (p : Nat) (x : PgSI) : Ctr Try.prog 90 [.pointer (some ⟨p, 0, none⟩), x.val] []
    (fun v M => ∃ b c, v = .func (.func 91) #[] #[.pointer (some ⟨b, 0, none⟩), .pointer (some ⟨c, 0, none⟩)] ∧ M = [pblk c (.cells x.val.cells 110 (0, 0)), pblk b (.cells #[.pointer (some ⟨p, 0, none⟩)] 105 (0, 0))]) := by
  refine spec_of Try.func90 rfl Try.ntmps90 rfl fun w0 F => ?_
  -- (*ponder/order.Set[ponder/book.page[ponder/api.Sym, int]]).From
  repeat (first | refine g_endt ?_ | refine g_end ?_ | refine g_then ?_ | refine g_in_normal ?_ | refine g_then_ret ?_ | refine g_in_ret ?_ | refine g_then_exit ?_ | refine g_in_exit rfl ?_ | refine g_in_exit_ne (by decide) ?_ | refine g_seq ?_ | refine g_region ?_ | refine g_block ?_ | refine g_ret ?_ | refine g_return_n ?_ | refine g_exit ?_ | refine g_skip ?_)
  refine o_boxc #[.pointer (some ⟨p, 0, none⟩)] rfl rfl fun b => G.freeze <| ?_
  refine o_boxc x.val.cells rfl rfl fun c => G.freeze <| ?_
  refine o_assign ?_
  first | refine g_endt ?_ | refine g_end ?_
  repeat (first | refine g_endt ?_ | refine g_end ?_ | refine g_then ?_ | refine g_in_normal ?_ | refine g_then_ret ?_ | refine g_in_ret ?_ | refine g_then_exit ?_ | refine g_in_exit rfl ?_ | refine g_in_exit_ne (by decide) ?_ | refine g_seq ?_ | refine g_region ?_ | refine g_block ?_ | refine g_ret ?_ | refine g_return_n ?_ | refine g_exit ?_ | refine g_skip ?_)
  refine o_func ?_
  refine o_assign ?_
  first | refine g_endt ?_ | refine g_end ?_
  repeat (first | refine g_endt ?_ | refine g_end ?_ | refine g_then ?_ | refine g_in_normal ?_ | refine g_then_ret ?_ | refine g_in_ret ?_ | refine g_then_exit ?_ | refine g_in_exit rfl ?_ | refine g_in_exit_ne (by decide) ?_ | refine g_seq ?_ | refine g_region ?_ | refine g_block ?_ | refine g_ret ?_ | refine g_return_n ?_ | refine g_exit ?_ | refine g_skip ?_)
  exact ret1 rfl (resT rfl) ⟨b, c, rfl, rfl⟩
end Go.Proofs.Ytlognaddmbolgaa
