/- An ordered map's functions, for one type of keys and one of values: told in order. -/
import Derived.Test.YtlognaddmbolgaaMSI
namespace Go.Proofs.Ytlognaddmbolgaa
open Go Go.Sl
attribute [local irreducible] Code.wpIn roundPost bodyPostM runL Ret Meets Begin

theorem MapASI_of (m p : Nat) (ys : List PgSI) {L M : List SProp} [tk : Take1 L (MapASI m ys) M] : Ent (sl (SetASI p ys :: cellsB m #[.pointer (some ⟨p, 0, none⟩)] 107 :: M)) (sl L) := by
  refine Ent.trans ?_ (sl_perm tk.perm.symm)
  refine (sl_perm (List.Perm.swap (cellsB m #[.pointer (some ⟨p, 0, none⟩)] 107) (SetASI p ys) M)).trans ?_
  exact (sl_append_to [cellsB m #[.pointer (some ⟨p, 0, none⟩)] 107, SetASI p ys] M).trans (Ent.star (show Ent _ (MapASI m ys) from fun _ _ x => ⟨p, x⟩) (Ent.refl _))
theorem AllM1SI_iter (m b : Nat) (ys : List PgSI) (hl : ys.length < 1000000000) (J0 : List SProp) {M : List SProp} [tk : Take1 J0 (MapASI m ys) M] [HasP J0 (pblk b (.cells #[.pointer (some ⟨m, 0, none⟩)] 36 (0, 0)))] :
    Iter Try.prog 53 [.pointer (some ⟨b, 0, none⟩)] PgSI.enc2 ys J0 := by
  intro l J Jx hJ hy
  subst hJ
  refine spec_of Try.func53 rfl Try.ntmps53 rfl fun w0 F => ?_
  refine G.dup (pblk b (.cells #[.pointer (some ⟨m, 0, none⟩)] 36 (0, 0))) ?_
  repeat (first | refine g_endt ?_ | refine g_end ?_ | refine g_then ?_ | refine g_in_normal ?_ | refine g_then_ret ?_ | refine g_in_ret ?_ | refine g_then_exit ?_ | refine g_in_exit rfl ?_ | refine g_in_exit_ne (by decide) ?_ | refine g_seq ?_ | refine g_region ?_ | refine g_block ?_ | refine g_ret ?_ | refine g_return_n ?_ | refine g_exit ?_ | refine g_skip ?_)
  refine o_boxc #[.func (.yield l) #[] #[]] rfl rfl fun q => ?_
  refine g_endt ?_
  repeat (first | refine g_endt ?_ | refine g_end ?_ | refine g_then ?_ | refine g_in_normal ?_ | refine g_then_ret ?_ | refine g_in_ret ?_ | refine g_then_exit ?_ | refine g_in_exit rfl ?_ | refine g_in_exit_ne (by decide) ?_ | refine g_seq ?_ | refine g_region ?_ | refine g_block ?_ | refine g_ret ?_ | refine g_return_n ?_ | refine g_exit ?_ | refine g_skip ?_)
  refine o_load1 (v := .pointer (some ⟨m, 0, none⟩)) rfl rfl ?_
  refine o_peql rfl ?_
  refine g_endt ?_
  first | refine g_seq (g_cond_f rfl (rfl) ?_) | refine g_cond_f rfl (rfl) ?_
  repeat (first | refine g_endt ?_ | refine g_end ?_ | refine g_then ?_ | refine g_in_normal ?_ | refine g_then_ret ?_ | refine g_in_ret ?_ | refine g_then_exit ?_ | refine g_in_exit rfl ?_ | refine g_in_exit_ne (by decide) ?_ | refine g_seq ?_ | refine g_region ?_ | refine g_block ?_ | refine g_ret ?_ | refine g_return_n ?_ | refine g_exit ?_ | refine g_skip ?_)
  refine openMSI m ys fun p => ?_
  refine o_load1 (v := .pointer (some ⟨m, 0, none⟩)) rfl rfl ?_
  refine o_nil rfl ?_
  refine o_field rfl ?_
  refine o_load1 (v := .pointer (some ⟨p, 0, none⟩)) rfl rfl ?_
  refine o_call (AllSI_spec p) rfl rfl ?_
  rintro _ _ ⟨b2, rfl, rfl⟩
  refine g_endt ?_
  repeat (first | refine g_endt ?_ | refine g_end ?_ | refine g_then ?_ | refine g_in_normal ?_ | refine g_then_ret ?_ | refine g_in_ret ?_ | refine g_then_exit ?_ | refine g_in_exit rfl ?_ | refine g_in_exit_ne (by decide) ?_ | refine g_seq ?_ | refine g_region ?_ | refine g_block ?_ | refine g_ret ?_ | refine g_return_n ?_ | refine g_exit ?_ | refine g_skip ?_)
  have hO : Ent (sl (SetASI p ys :: cellsB m #[.pointer (some ⟨p, 0, none⟩)] 107 :: M)) (sl (J [])) := MapASI_of m p ys
  refine g_range (ps := [11]) (lb := [.pointer (some ⟨b2, 0, none⟩)]) (enc := PgSI.enc') (xs := ys) rfl
    (fun pre => cellsB q #[.func (.yield l) #[] #[]] 43 :: pblk b2 (.cells #[.pointer (some ⟨p, 0, none⟩)] 105 (0, 0)) :: Jin (SetASI p ys :: cellsB m #[.pointer (some ⟨p, 0, none⟩)] 107 :: M) J pre)
    (fun c pre => pu (c = .ret) :: Jx pre)
    (fun K => All1SI_iter p b2 ys hl (K :: cellsB q #[.func (.yield l) #[] #[]] 43 :: pblk b2 (.cells #[.pointer (some ⟨p, 0, none⟩)] 105 (0, 0)) :: SetASI p ys :: cellsB m #[.pointer (some ⟨p, 0, none⟩)] 107 :: M))
    (fun _ => rfl) (tk := (inferInstance : Take _ (cellsB q #[.func (.yield l) #[] #[]] 43 :: pblk b2 (.cells #[.pointer (some ⟨p, 0, none⟩)] 105 (0, 0)) :: SetASI p ys :: cellsB m #[.pointer (some ⟨p, 0, none⟩)] 107 :: M) _)) ?_ ?_ ?_
  · intro w0 F l' r pre x hp
    refine G.ent (L' := cellsB q #[.func (.yield l) #[] #[]] 43 :: pblk b2 (.cells #[.pointer (some ⟨p, 0, none⟩)] 105 (0, 0)) :: J pre) ((Ent.refl _).star ((Ent.refl _).star (Jin_ent hO pre))) ?_
    repeat (first | refine g_endt ?_ | refine g_end ?_ | refine g_then ?_ | refine g_in_normal ?_ | refine g_then_ret ?_ | refine g_in_ret ?_ | refine g_then_exit ?_ | refine g_in_exit rfl ?_ | refine g_in_exit_ne (by decide) ?_ | refine g_seq ?_ | refine g_region ?_ | refine g_block ?_ | refine g_ret ?_ | refine g_return_n ?_ | refine g_exit ?_ | refine g_skip ?_)
    refine o_alloc fun c => ?_
    refine o_store (v := x.val) rfl rfl rfl rfl rfl ?_
    refine g_endt ?_
    refine G.norm c x.val.cells rfl ?_
    repeat (first | refine g_endt ?_ | refine g_end ?_ | refine g_then ?_ | refine g_in_normal ?_ | refine g_then_ret ?_ | refine g_in_ret ?_ | refine g_then_exit ?_ | refine g_in_exit rfl ?_ | refine g_in_exit_ne (by decide) ?_ | refine g_seq ?_ | refine g_region ?_ | refine g_block ?_ | refine g_ret ?_ | refine g_return_n ?_ | refine g_exit ?_ | refine g_skip ?_)
    refine g_begin ?_
    repeat (first | refine g_endt ?_ | refine g_end ?_ | refine g_then ?_ | refine g_in_normal ?_ | refine g_then_ret ?_ | refine g_in_ret ?_ | refine g_then_exit ?_ | refine g_in_exit rfl ?_ | refine g_in_exit_ne (by decide) ?_ | refine g_seq ?_ | refine g_region ?_ | refine g_block ?_ | refine g_ret ?_ | refine g_return_n ?_ | refine g_exit ?_ | refine g_skip ?_)
    refine o_load1 (v := .func (.yield l) #[] #[]) rfl rfl ?_
    refine o_field rfl ?_
    refine o_loadN (v := x.k.val) rfl rfl rfl ?_
    refine o_field rfl ?_
    refine o_load1 (v := PgSI.vval x.v) rfl rfl ?_
    refine o_yield (hy pre x hp) rfl rfl ?_ ?_
    · refine o_not rfl ?_
      refine g_endt ?_
      first | refine g_seq (g_cond_f rfl (rfl) ?_) | refine g_cond_f rfl (rfl) ?_
      repeat (first | refine g_endt ?_ | refine g_end ?_ | refine g_then ?_ | refine g_in_normal ?_ | refine g_then_ret ?_ | refine g_in_ret ?_ | refine g_then_exit ?_ | refine g_in_exit rfl ?_ | refine g_in_exit_ne (by decide) ?_ | refine g_seq ?_ | refine g_region ?_ | refine g_block ?_ | refine g_ret ?_ | refine g_return_n ?_ | refine g_exit ?_ | refine g_skip ?_)
      exact g_next (tk := by rw [Jin_snoc]; infer_instance)
    · refine o_not rfl ?_
      refine g_endt ?_
      first | refine g_seq (g_cond_t rfl (rfl) ?_) | refine g_cond_t rfl (rfl) ?_
      repeat (first | refine g_endt ?_ | refine g_end ?_ | refine g_then ?_ | refine g_in_normal ?_ | refine g_then_ret ?_ | refine g_in_ret ?_ | refine g_then_exit ?_ | refine g_in_exit rfl ?_ | refine g_in_exit_ne (by decide) ?_ | refine g_seq ?_ | refine g_region ?_ | refine g_block ?_ | refine g_ret ?_ | refine g_return_n ?_ | refine g_exit ?_ | refine g_skip ?_)
      refine G.pu_in (q := Code.ret = Code.ret) rfl ?_
      exact g_leave_ret
  · intro D
    refine G.ent (L' := cellsB q #[.func (.yield l) #[] #[]] 43 :: pblk b2 (.cells #[.pointer (some ⟨p, 0, none⟩)] 105 (0, 0)) :: J ys) ((Ent.refl _).star ((Ent.refl _).star (Jin_ent hO ys))) ?_
    repeat (first | refine g_endt ?_ | refine g_end ?_ | refine g_then ?_ | refine g_in_normal ?_ | refine g_then_ret ?_ | refine g_in_ret ?_ | refine g_then_exit ?_ | refine g_in_exit rfl ?_ | refine g_in_exit_ne (by decide) ?_ | refine g_seq ?_ | refine g_region ?_ | refine g_block ?_ | refine g_ret ?_ | refine g_return_n ?_ | refine g_exit ?_ | refine g_skip ?_)
    exact ret0 (K := J ys) rfl (.inl rfl)
  · intro D c pre hp
    refine G.pu fun h => ?_
    subst h
    repeat (first | refine g_endt ?_ | refine g_end ?_ | refine g_then ?_ | refine g_in_normal ?_ | refine g_then_ret ?_ | refine g_in_ret ?_ | refine g_then_exit ?_ | refine g_in_exit rfl ?_ | refine g_in_exit_ne (by decide) ?_ | refine g_seq ?_ | refine g_region ?_ | refine g_block ?_ | refine g_ret ?_ | refine g_return_n ?_ | refine g_exit ?_ | refine g_skip ?_)
    exact ret0 (K := Jx pre) rfl (.inr ⟨pre, hp, rfl⟩)
theorem AllMSI_spec (m : Nat) : Ctr Try.prog 16 [.pointer (some ⟨m, 0, none⟩)] []
    (fun v M => ∃ b, v = .func (.func 53) #[] #[.pointer (some ⟨b, 0, none⟩)] ∧ M = [pblk b (.cells #[.pointer (some ⟨m, 0, none⟩)] 36 (0, 0))]) := by
  refine spec_of Try.func16 rfl Try.ntmps16 rfl fun w0 F => ?_
  repeat (first | refine g_endt ?_ | refine g_end ?_ | refine g_then ?_ | refine g_in_normal ?_ | refine g_then_ret ?_ | refine g_in_ret ?_ | refine g_then_exit ?_ | refine g_in_exit rfl ?_ | refine g_in_exit_ne (by decide) ?_ | refine g_seq ?_ | refine g_region ?_ | refine g_block ?_ | refine g_ret ?_ | refine g_return_n ?_ | refine g_exit ?_ | refine g_skip ?_)
  refine o_boxc #[.pointer (some ⟨m, 0, none⟩)] rfl rfl fun b => ?_
  refine G.freeze ?_
  refine o_assign ?_
  first | refine g_endt ?_ | refine g_end ?_
  repeat (first | refine g_endt ?_ | refine g_end ?_ | refine g_then ?_ | refine g_in_normal ?_ | refine g_then_ret ?_ | refine g_in_ret ?_ | refine g_then_exit ?_ | refine g_in_exit rfl ?_ | refine g_in_exit_ne (by decide) ?_ | refine g_seq ?_ | refine g_region ?_ | refine g_block ?_ | refine g_ret ?_ | refine g_return_n ?_ | refine g_exit ?_ | refine g_skip ?_)
  refine o_func ?_
  refine o_assign ?_
  first | refine g_endt ?_ | refine g_end ?_
  repeat (first | refine g_endt ?_ | refine g_end ?_ | refine g_then ?_ | refine g_in_normal ?_ | refine g_then_ret ?_ | refine g_in_ret ?_ | refine g_then_exit ?_ | refine g_in_exit rfl ?_ | refine g_in_exit_ne (by decide) ?_ | refine g_seq ?_ | refine g_region ?_ | refine g_block ?_ | refine g_ret ?_ | refine g_return_n ?_ | refine g_exit ?_ | refine g_skip ?_)
  exact ret1 rfl (resT rfl) ⟨b, rfl, rfl⟩
end Go.Proofs.Ytlognaddmbolgaa
