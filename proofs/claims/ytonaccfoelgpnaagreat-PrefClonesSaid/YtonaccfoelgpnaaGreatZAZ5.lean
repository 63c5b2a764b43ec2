/- Parts of a proof, in order. -/
import Derived.Test.YtonaccfoelgpnaaGreatZAZ4

set_option linter.unusedSimpArgs false
set_option linter.unusedVariables false
/- An ordered set's functions, for one type of members: told in order; made; how many; at a place. -/
namespace Go.Proofs.YtonaccfoelgpnaaGreat
open Go Go.Sl
attribute [local irreducible] Code.wpIn roundPost bodyPostM runL Ret Meets Begin

theorem fromES_spec (p k : Nat) (ys : List ElemD) (hl : ys.length < 1000000000) (hk : k ≤ ys.length) (l : Nat) (J Jx : List ElemD → List SProp) {M : List SProp} [tk : Take1 (J []) (SetAES p ys) M]
    (hy : ∀ pre x, (pre ++ [x]) <+: ys.drop k → Sl.Yields Tryz.prog l (ElemD.enc' x) (J pre) (J (pre ++ [x])) (Jx (pre ++ [x]))) :
    Ctr Tryz.prog 73 [.pointer (some ⟨p, 0, none⟩), .int .i64 (k : Int), .func (.yield l) #[] #[]] (J []) (fun _ L' => L' = J (ys.drop k) ∨ ∃ pre, pre <+: ys.drop k ∧ L' = Jx pre) := by
  refine spec_of Tryz.func73 rfl Tryz.ntmps73 rfl fun w0 F => ?_
  repeat (first | refine g_endt ?_ | refine g_end ?_ | refine g_then ?_ | refine g_in_normal ?_ | refine g_then_ret ?_ | refine g_in_ret ?_ | refine g_then_exit ?_ | refine g_in_exit rfl ?_ | refine g_in_exit_ne (by decide) ?_ | refine g_seq ?_ | refine g_region ?_ | refine g_block ?_ | refine g_ret ?_ | refine g_return_n ?_ | refine g_exit ?_ | refine g_skip ?_)
  refine openES p ys fun S c b => ?_
  refine o_move ?_
  refine o_nil rfl ?_
  refine o_field rfl ?_
  refine o_store (v := .bool true) rfl rfl rfl rfl rfl ?_
  refine g_endt ?_
  refine G.norm p #[.slice S ys.length c, .bool true] rfl ?_
  refine G.bring [row 58 ElemD.enc 12 b S c ys] ?_
  refine G.see1 ?_
  repeat (first | refine g_endt ?_ | refine g_end ?_ | refine g_then ?_ | refine g_in_normal ?_ | refine g_then_ret ?_ | refine g_in_ret ?_ | refine g_then_exit ?_ | refine g_in_exit rfl ?_ | refine g_in_exit_ne (by decide) ?_ | refine g_seq ?_ | refine g_region ?_ | refine g_block ?_ | refine g_ret ?_ | refine g_return_n ?_ | refine g_exit ?_ | refine g_skip ?_)
  refine o_move ?_
  refine o_nil rfl ?_
  refine o_field rfl ?_
  refine o_load1 (v := .slice S ys.length c) rfl rfl ?_
  refine o_assign ?_
  refine g_endt ?_
  refine G.dup (psl ElemD.enc 12 S ys) ?_
  refine shutTES p ys S c rfl ?_
  repeat (first | refine g_endt ?_ | refine g_end ?_ | refine g_then ?_ | refine g_in_normal ?_ | refine g_then_ret ?_ | refine g_in_ret ?_ | refine g_then_exit ?_ | refine g_in_exit rfl ?_ | refine g_in_exit_ne (by decide) ?_ | refine g_seq ?_ | refine g_region ?_ | refine g_block ?_ | refine g_ret ?_ | refine g_return_n ?_ | refine g_exit ?_ | refine g_skip ?_)
  refine o_move ?_
  refine o_assign ?_
  first | refine g_endt ?_ | refine g_end ?_
  repeat (first | refine g_endt ?_ | refine g_end ?_ | refine g_then ?_ | refine g_in_normal ?_ | refine g_then_ret ?_ | refine g_in_ret ?_ | refine g_then_exit ?_ | refine g_in_exit rfl ?_ | refine g_in_exit_ne (by decide) ?_ | refine g_seq ?_ | refine g_region ?_ | refine g_block ?_ | refine g_ret ?_ | refine g_return_n ?_ | refine g_exit ?_ | refine g_skip ?_)
  refine g_loop (σ := {i : Nat // k ≤ i ∧ i ≤ ys.length}) (S := fun i => [(2, .func (.yield l) #[] #[]), (6, .slice S ys.length c), (7, .int .i64 (i.1 : Int))])
    (H := fun i => psl ElemD.enc 12 S ys :: J ((ys.drop k).take (i.1 - k))) (μ := fun i => ys.length - i.1) (s0 := ⟨k, Nat.le_refl _, hk⟩) (Sat.mem ⟨rfl, rfl, rfl, trivial⟩)
    (t := by simp only [Nat.sub_self, List.take_zero]; exact Take.setback) ?_
  rintro ⟨i, h1, h2⟩ ρ'
  dsimp only at h1 h2 ⊢
  repeat (first | refine g_endt ?_ | refine g_end ?_ | refine g_then ?_ | refine g_in_normal ?_ | refine g_then_ret ?_ | refine g_in_ret ?_ | refine g_then_exit ?_ | refine g_in_exit rfl ?_ | refine g_in_exit_ne (by decide) ?_ | refine g_seq ?_ | refine g_region ?_ | refine g_block ?_ | refine g_ret ?_ | refine g_return_n ?_ | refine g_exit ?_ | refine g_skip ?_)
  refine o_move ?_
  refine o_move ?_
  refine o_len rfl rfl ?_
  refine o_lss rfl rfl ?_
  first | refine g_endt ?_ | refine g_end ?_
  by_cases h : i < ys.length
  · first | refine g_seq (g_cond_t rfl (by simpa using h) ?_) | refine g_cond_t rfl (by simpa using h) ?_
    repeat (first | refine g_endt ?_ | refine g_end ?_ | refine g_then ?_ | refine g_in_normal ?_ | refine g_then_ret ?_ | refine g_in_ret ?_ | refine g_then_exit ?_ | refine g_in_exit rfl ?_ | refine g_in_exit_ne (by decide) ?_ | refine g_seq ?_ | refine g_region ?_ | refine g_block ?_ | refine g_ret ?_ | refine g_return_n ?_ | refine g_exit ?_ | refine g_skip ?_)
    obtain ⟨y, hz⟩ : ∃ y, ys[i]? = some y := ⟨_, List.getElem?_eq_getElem h⟩
    have ht : (ys.drop k).take (i + 1 - k) = (ys.drop k).take (i - k) ++ [y] := by
      rw [show i + 1 - k = (i - k) + 1 by omega]
      exact take_snocPES _ _ _ (by rw [List.getElem?_drop, show k + (i - k) = i by omega, hz])
    have hp : ((ys.drop k).take (i - k) ++ [y]) <+: ys.drop k := ⟨(ys.drop k).drop (i + 1 - k), by rw [← ht, List.take_append_drop]⟩
    refine o_move ?_
    refine o_move ?_
    refine o_move ?_
    refine o_indexR (i := i) rfl rfl rfl h rfl rfl ?_
    refine o_loadE (enc := ElemD.enc) rfl rfl hz ?_
    refine o_yield (hy _ y hp) rfl rfl ?_ ?_
    · refine o_not rfl ?_
      refine g_endt ?_
      refine g_cond_f rfl rfl ?_
      repeat (first | refine g_endt ?_ | refine g_end ?_ | refine g_then ?_ | refine g_in_normal ?_ | refine g_then_ret ?_ | refine g_in_ret ?_ | refine g_then_exit ?_ | refine g_in_exit rfl ?_ | refine g_in_exit_ne (by decide) ?_ | refine g_seq ?_ | refine g_region ?_ | refine g_block ?_ | refine g_ret ?_ | refine g_return_n ?_ | refine g_exit ?_ | refine g_skip ?_)
      refine o_move ?_
      refine o_add (c := ((i + 1 : Nat) : Int)) rfl rfl (by omega) (by omega) (by omega) ?_
      refine o_assign ?_
      refine g_endt ?_
      repeat (first | refine g_endt ?_ | refine g_end ?_ | refine g_then ?_ | refine g_in_normal ?_ | refine g_then_ret ?_ | refine g_in_ret ?_ | refine g_then_exit ?_ | refine g_in_exit rfl ?_ | refine g_in_exit_ne (by decide) ?_ | refine g_seq ?_ | refine g_region ?_ | refine g_block ?_ | refine g_ret ?_ | refine g_return_n ?_ | refine g_exit ?_ | refine g_skip ?_)
      exact g_meets ⟨i + 1, by omega, h⟩ (by show ys.length - (i + 1) < ys.length - i; omega) (Sat.mem ⟨rfl, rfl, rfl, trivial⟩) (t := by rw [ht]; infer_instance)
    · refine o_not rfl ?_
      refine g_endt ?_
      refine g_cond_t rfl rfl ?_
      repeat (first | refine g_endt ?_ | refine g_end ?_ | refine g_then ?_ | refine g_in_normal ?_ | refine g_then_ret ?_ | refine g_in_ret ?_ | refine g_then_exit ?_ | refine g_in_exit rfl ?_ | refine g_in_exit_ne (by decide) ?_ | refine g_seq ?_ | refine g_region ?_ | refine g_block ?_ | refine g_ret ?_ | refine g_return_n ?_ | refine g_exit ?_ | refine g_skip ?_)
      exact ret0 rfl (.inr ⟨_, hp, rfl⟩)
  · first | refine g_seq (g_cond_f rfl (by simpa using h) ?_) | refine g_cond_f rfl (by simpa using h) ?_
    repeat (first | refine g_endt ?_ | refine g_end ?_ | refine g_then ?_ | refine g_in_normal ?_ | refine g_then_ret ?_ | refine g_in_ret ?_ | refine g_then_exit ?_ | refine g_in_exit rfl ?_ | refine g_in_exit_ne (by decide) ?_ | refine g_seq ?_ | refine g_region ?_ | refine g_block ?_ | refine g_ret ?_ | refine g_return_n ?_ | refine g_exit ?_ | refine g_skip ?_)
    have he : (ys.drop k).take (i - k) = ys.drop k := List.take_of_length_le (by simp; omega)
    exact ret0 (K := J ((ys.drop k).take (i - k))) rfl (.inl (by rw [he]))
theorem All1ES_iter (p b : Nat) (ys : List ElemD) (hl : ys.length < 1000000000) (J0 : List SProp) {M : List SProp} [tk : Take1 J0 (SetAES p ys) M] [HasP J0 (pblk b (.cells #[.pointer (some ⟨p, 0, none⟩)] 94 (0, 0)))] :
    Iter Tryz.prog 72 [.pointer (some ⟨b, 0, none⟩)] ElemD.enc' ys J0 := by
  intro l J Jx hJ hy
  subst hJ
  refine spec_of Tryz.func72 rfl Tryz.ntmps72 rfl fun w0 F => ?_
  refine G.dup (pblk b (.cells #[.pointer (some ⟨p, 0, none⟩)] 94 (0, 0))) ?_
  repeat (first | refine g_endt ?_ | refine g_end ?_ | refine g_then ?_ | refine g_in_normal ?_ | refine g_then_ret ?_ | refine g_in_ret ?_ | refine g_then_exit ?_ | refine g_in_exit rfl ?_ | refine g_in_exit_ne (by decide) ?_ | refine g_seq ?_ | refine g_region ?_ | refine g_block ?_ | refine g_ret ?_ | refine g_return_n ?_ | refine g_exit ?_ | refine g_skip ?_)
  refine o_load1 (v := .pointer (some ⟨p, 0, none⟩)) rfl rfl ?_
  refine o_pneq rfl ?_
  refine g_endt ?_
  first | refine g_seq (g_cond_t rfl (rfl) ?_) | refine g_cond_t rfl (rfl) ?_
  repeat (first | refine g_endt ?_ | refine g_end ?_ | refine g_then ?_ | refine g_in_normal ?_ | refine g_then_ret ?_ | refine g_in_ret ?_ | refine g_then_exit ?_ | refine g_in_exit rfl ?_ | refine g_in_exit_ne (by decide) ?_ | refine g_seq ?_ | refine g_region ?_ | refine g_block ?_ | refine g_ret ?_ | refine g_return_n ?_ | refine g_exit ?_ | refine g_skip ?_)
  refine o_load1 (v := .pointer (some ⟨p, 0, none⟩)) rfl rfl ?_
  refine o_move ?_
  refine o_call (fromES_spec p 0 ys hl (Nat.zero_le _) l J Jx (by simpa using hy)) rfl rfl ?_
  intro v L' hR
  repeat (first | refine g_endt ?_ | refine g_end ?_ | refine g_then ?_ | refine g_in_normal ?_ | refine g_then_ret ?_ | refine g_in_ret ?_ | refine g_then_exit ?_ | refine g_in_exit rfl ?_ | refine g_in_exit_ne (by decide) ?_ | refine g_seq ?_ | refine g_region ?_ | refine g_block ?_ | refine g_ret ?_ | refine g_return_n ?_ | refine g_exit ?_ | refine g_skip ?_)
  exact ret0 (K := L') rfl (by simpa using hR)
theorem AllES_spec (p : Nat) : Ctr Tryz.prog 44 [.pointer (some ⟨p, 0, none⟩)] []
    (fun v M => ∃ b, v = .func (.func 72) #[] #[.pointer (some ⟨b, 0, none⟩)] ∧ M = [pblk b (.cells #[.pointer (some ⟨p, 0, none⟩)] 94 (0, 0))]) := by
  refine spec_of Tryz.func44 rfl Tryz.ntmps44 rfl fun w0 F => ?_
  repeat (first | refine g_endt ?_ | refine g_end ?_ | refine g_then ?_ | refine g_in_normal ?_ | refine g_then_ret ?_ | refine g_in_ret ?_ | refine g_then_exit ?_ | refine g_in_exit rfl ?_ | refine g_in_exit_ne (by decide) ?_ | refine g_seq ?_ | refine g_region ?_ | refine g_block ?_ | refine g_ret ?_ | refine g_return_n ?_ | refine g_exit ?_ | refine g_skip ?_)
  refine o_boxc #[.pointer (some ⟨p, 0, none⟩)] rfl rfl fun b => ?_
  refine G.freeze ?_
  refine o_assign ?_
  first | refine g_endt ?_ | refine g_end ?_
  repeat (first | refine g_endt ?_ | refine g_end ?_ | refine g_then ?_ | refine g_in_normal ?_ | refine g_then_ret ?_ | refine g_in_ret ?_ | refine g_then_exit ?_ | refine g_in_exit rfl ?_ | refine g_in_exit_ne (by decide) ?_ | refine g_seq ?_ | refine g_region ?_ | refine g_block ?_ | refine g_ret ?_ | refine g_return_n ?_ | refine g_exit ?_ | refine g_skip ?_)
  refine o_func ?_
  refine o_assign ?_
  first | refine g_endt ?_ | refine g_end ?_
  repeat (first | refine g_endt ?_ | refine g_end ?_ | refine g_then ?_ | refine g_in_normal ?_ | refine g_then_ret ?_ | refine g_in_ret ?_ | refine g_then_exit ?_ | refine g_in_exit rfl ?_ | refine g_in_exit_ne (by decide) ?_ | refine g_seq ?_ | refine g_region ?_ | refine g_block ?_ | refine g_ret ?_ | refine g_return_n ?_ | refine g_exit ?_ | refine g_skip ?_)
  exact ret1 rfl (resT rfl) ⟨b, rfl, rfl⟩
end Go.Proofs.YtonaccfoelgpnaaGreat
/- A set of its own, for one type of members. -/
namespace Go.Proofs.YtonaccfoelgpnaaGreat
open Go Go.Sl
attribute [local irreducible] Code.wpIn roundPost bodyPostM runL Ret Meets Begin

/-- A set of its own, its list owned. -/
def OwnES (p : Nat) (ys : List ElemD) : SProp := ex fun r : Option Addr × Nat => sl [cellsB p #[.slice r.1 ys.length r.2, .bool false] 134, osl 58 ElemD.enc 12 r.1 r.2 ys]
section
variable {w0 : World} {A : SProp} {L M : List SProp} {Φ : World → Prop}
theorem openOES (p : Nat) (ys : List ElemD) [tk : Take1 L (OwnES p ys) M] (h : ∀ S c, G w0 A (cellsB p #[.slice S ys.length c, .bool false] 134 :: osl 58 ElemD.enc 12 S c ys :: M) Φ) : G w0 A L Φ :=
  G.perm tk.perm (G.ex fun ⟨S, c⟩ => G.open_sl (h S c))
theorem shutOES (p : Nat) (ys : List ElemD) (S : Option Addr) (c : Nat) {n : Nat} (hn : ys.length = n) [tk : Take L [cellsB p #[.slice S n c, .bool false] 134, osl 58 ElemD.enc 12 S c ys] M] (h : G w0 A (OwnES p ys :: M) Φ) : G w0 A L Φ := by
  subst hn
  exact G.perm tk.perm (G.ent ((sl_append_to _ M).trans (Ent.star (show Ent _ (OwnES p ys) from fun _ _ x => ⟨(S, c), x⟩) (Ent.refl _))) h)
end
end Go.Proofs.YtonaccfoelgpnaaGreat
/- An ordered set less another one, for one type of members. -/
namespace Go.Proofs.YtonaccfoelgpnaaGreat
open Go Go.Sl
attribute [local irreducible] Code.wpIn roundPost bodyPostM runL Ret Meets Begin

theorem LessES_spec (p q : Nat) (ys zs : List ElemD) (hz : Srt ElemD.cmp zs) (hl : ys.length ≤ 100000) (hl2 : zs.length ≤ 100000) : Ctr Tryz.prog 71 [.pointer (some ⟨p, 0, none⟩), .pointer (some ⟨q, 0, none⟩)] [SetAES p ys, SetAES q zs]
    (fun v M => ∃ r, v = .pointer (some ⟨r, 0, none⟩) ∧ M = [SetAES r (ys.filter fun y => !hasC ElemD.cmp zs y), SetAES p ys, SetAES q zs]) := by
  refine spec_of Tryz.func71 rfl Tryz.ntmps71 rfl fun w0 F => ?_
  -- ponder/order.Less[ponder/api.Elem]
  repeat (first | refine g_endt ?_ | refine g_end ?_ | refine g_then ?_ | refine g_in_normal ?_ | refine g_then_ret ?_ | refine g_in_ret ?_ | refine g_then_exit ?_ | refine g_in_exit rfl ?_ | refine g_in_exit_ne (by decide) ?_ | refine g_seq ?_ | refine g_region ?_ | refine g_block ?_ | refine g_ret ?_ | refine g_return_n ?_ | refine g_exit ?_ | refine g_skip ?_)
  refine o_boxc #[.pointer (some ⟨q, 0, none⟩)] rfl rfl fun bq => ?_
  refine o_assign ?_
  first | refine g_endt ?_ | refine g_end ?_
  repeat (first | refine g_endt ?_ | refine g_end ?_ | refine g_then ?_ | refine g_in_normal ?_ | refine g_then_ret ?_ | refine g_in_ret ?_ | refine g_then_exit ?_ | refine g_in_exit rfl ?_ | refine g_in_exit_ne (by decide) ?_ | refine g_seq ?_ | refine g_region ?_ | refine g_block ?_ | refine g_ret ?_ | refine g_return_n ?_ | refine g_exit ?_ | refine g_skip ?_)
  refine o_build (.agg #[.slice none 0 0, .bool false]) (fun w => by kernel_rfl) ?_
  refine o_boxc #[.slice none 0 0, .bool false] rfl rfl fun r => ?_
  refine o_alloc fun br => ?_
  refine o_store (v := .pointer (some ⟨r, 0, none⟩)) rfl rfl rfl rfl rfl ?_
  first | refine g_endt ?_ | refine g_end ?_
  refine G.norm br #[.pointer (some ⟨r, 0, none⟩)] rfl ?_
  repeat (first | refine g_endt ?_ | refine g_end ?_ | refine g_then ?_ | refine g_in_normal ?_ | refine g_then_ret ?_ | refine g_in_ret ?_ | refine g_then_exit ?_ | refine g_in_exit rfl ?_ | refine g_in_exit_ne (by decide) ?_ | refine g_seq ?_ | refine g_region ?_ | refine g_block ?_ | refine g_ret ?_ | refine g_return_n ?_ | refine g_exit ?_ | refine g_skip ?_)
  refine o_move ?_
  refine o_call (AllES_spec p) rfl rfl ?_
  rintro _ _ ⟨b2, rfl, rfl⟩
  first | refine g_endt ?_ | refine g_end ?_
  refine G.nil_slice (α := ElemD) 58 ElemD.enc 12 ?_
  refine shutOES r (([] : List ElemD).filter fun y => !hasC ElemD.cmp zs y) none 0 (n := 0) rfl (tk := (inferInstance : Take _ [cellsB r #[.slice none 0 0, .bool false] 134, osl 58 ElemD.enc 12 none 0 []] _)) ?_
  repeat (first | refine g_endt ?_ | refine g_end ?_ | refine g_then ?_ | refine g_in_normal ?_ | refine g_then_ret ?_ | refine g_in_ret ?_ | refine g_then_exit ?_ | refine g_in_exit rfl ?_ | refine g_in_exit_ne (by decide) ?_ | refine g_seq ?_ | refine g_region ?_ | refine g_block ?_ | refine g_ret ?_ | refine g_return_n ?_ | refine g_exit ?_ | refine g_skip ?_)
  refine g_range (ps := [13]) (lb := [.pointer (some ⟨b2, 0, none⟩)]) (enc := ElemD.enc') (xs := ys) rfl
    (fun pre => [OwnES r (pre.filter fun y => !hasC ElemD.cmp zs y), SetAES p ys, SetAES q zs, cellsB bq #[.pointer (some ⟨q, 0, none⟩)] 94, cellsB br #[.pointer (some ⟨r, 0, none⟩)] 94, pblk b2 (.cells #[.pointer (some ⟨p, 0, none⟩)] 94 (0, 0))]) (fun _ _ => [pu False])
    (fun K => All1ES_iter p b2 ys (by omega) _) (fun _ => rfl) ?_ ?_ ?_
  · intro w0 F l rr pre x hp
    have hlen : pre.length < ys.length := by
      obtain ⟨t, ht⟩ := hp
      have := congrArg List.length ht
      simp at this
      omega
    have hfl : (pre.filter fun y => !hasC ElemD.cmp zs y).length ≤ pre.length := List.length_filter_le _ _
    repeat (first | refine g_endt ?_ | refine g_end ?_ | refine g_then ?_ | refine g_in_normal ?_ | refine g_then_ret ?_ | refine g_in_ret ?_ | refine g_then_exit ?_ | refine g_in_exit rfl ?_ | refine g_in_exit_ne (by decide) ?_ | refine g_seq ?_ | refine g_region ?_ | refine g_block ?_ | refine g_ret ?_ | refine g_return_n ?_ | refine g_exit ?_ | refine g_skip ?_)
    refine o_alloc fun c => ?_
    refine o_store (v := x.val) rfl rfl rfl rfl rfl ?_
    first | refine g_endt ?_ | refine g_end ?_
    refine G.norm c x.val.cells rfl ?_
    repeat (first | refine g_endt ?_ | refine g_end ?_ | refine g_then ?_ | refine g_in_normal ?_ | refine g_then_ret ?_ | refine g_in_ret ?_ | refine g_then_exit ?_ | refine g_in_exit rfl ?_ | refine g_in_exit_ne (by decide) ?_ | refine g_seq ?_ | refine g_region ?_ | refine g_block ?_ | refine g_ret ?_ | refine g_return_n ?_ | refine g_exit ?_ | refine g_skip ?_)
    refine g_begin ?_
    repeat (first | refine g_endt ?_ | refine g_end ?_ | refine g_then ?_ | refine g_in_normal ?_ | refine g_then_ret ?_ | refine g_in_ret ?_ | refine g_then_exit ?_ | refine g_in_exit rfl ?_ | refine g_in_exit_ne (by decide) ?_ | refine g_seq ?_ | refine g_region ?_ | refine g_block ?_ | refine g_ret ?_ | refine g_return_n ?_ | refine g_exit ?_ | refine g_skip ?_)
    first | refine o_load1 rfl rfl ?_ | refine o_loadE0 rfl (by assumption) rfl ?_ | refine o_loadE1 rfl (by assumption) rfl ?_
    refine o_loadN (v := x.val) rfl rfl rfl ?_
    refine o_call (PlaceES_spec q zs x hz (by omega)) rfl rfl ?_
    rintro _ _ ⟨k, there, rfl, rfl, hk⟩
    refine o_move ?_
    refine o_extract rfl rfl ?_
    refine o_extract rfl rfl ?_
    refine o_assign ?_
    refine o_assign ?_
    first | refine g_endt ?_ | refine g_end ?_
    have hh := hasC_of hk
    repeat (first | refine g_endt ?_ | refine g_end ?_ | refine g_then ?_ | refine g_in_normal ?_ | refine g_then_ret ?_ | refine g_in_ret ?_ | refine g_then_exit ?_ | refine g_in_exit rfl ?_ | refine g_in_exit_ne (by decide) ?_ | refine g_seq ?_ | refine g_region ?_ | refine g_block ?_ | refine g_ret ?_ | refine g_return_n ?_ | refine g_exit ?_ | refine g_skip ?_)
    refine o_move ?_
    refine o_not rfl ?_
    first | refine g_endt ?_ | refine g_end ?_
    cases there with
    | true =>
      first | refine g_seq (g_cond_f rfl (by first | rfl | (simp; done) | (simp; omega) | (simp; assumption)) ?_) | refine g_cond_f rfl (by first | rfl | (simp; done) | (simp; omega) | (simp; assumption)) ?_
      repeat (first | refine g_endt ?_ | refine g_end ?_ | refine g_then ?_ | refine g_in_normal ?_ | refine g_then_ret ?_ | refine g_in_ret ?_ | refine g_then_exit ?_ | refine g_in_exit rfl ?_ | refine g_in_exit_ne (by decide) ?_ | refine g_seq ?_ | refine g_region ?_ | refine g_block ?_ | refine g_ret ?_ | refine g_return_n ?_ | refine g_exit ?_ | refine g_skip ?_)
      have e : (pre ++ [x]).filter (fun y => !hasC ElemD.cmp zs y) = pre.filter fun y => !hasC ElemD.cmp zs y := by rw [List.filter_append]; simp [hh]
      exact g_next (tk := by rw [e]; infer_instance)
    | false =>
      first | refine g_seq (g_cond_t rfl (by first | rfl | (simp; done) | (simp; omega) | (simp; assumption)) ?_) | refine g_cond_t rfl (by first | rfl | (simp; done) | (simp; omega) | (simp; assumption)) ?_
      have e : (pre ++ [x]).filter (fun y => !hasC ElemD.cmp zs y) = pre.filter (fun y => !hasC ElemD.cmp zs y) ++ [x] := by rw [List.filter_append]; simp [hh]
      generalize pre.filter (fun y => !hasC ElemD.cmp zs y) = us at e hfl ⊢
      refine openOES r us fun S d => ?_
      repeat (first | refine g_endt ?_ | refine g_end ?_ | refine g_then ?_ | refine g_in_normal ?_ | refine g_then_ret ?_ | refine g_in_ret ?_ | refine g_then_exit ?_ | refine g_in_exit rfl ?_ | refine g_in_exit_ne (by decide) ?_ | refine g_seq ?_ | refine g_region ?_ | refine g_block ?_ | refine g_ret ?_ | refine g_return_n ?_ | refine g_exit ?_ | refine g_skip ?_)
      refine g_draw [6,7,10] [0,1,2,3,4,5,6,7,8,9,10] [cellsB br #[.pointer (some ⟨r, 0, none⟩)] 94, cellsB r #[.slice S us.length d, .bool false] 134, cellsB c x.val.cells 58] mixed rfl ?_
      first | refine ob_q rfl rfl ⟨_, fun X Q h => o_load1 rfl rfl (g_end (h _ _ ⟨rfl, rfl⟩)), ?_⟩ | refine ob_q rfl rfl ⟨_, fun X Q h => o_loadE0 rfl (by assumption) rfl (g_end (h _ _ ⟨rfl, rfl⟩)), ?_⟩ | refine ob_q rfl rfl ⟨_, fun X Q h => o_loadE1 rfl (by assumption) rfl (g_end (h _ _ ⟨rfl, rfl⟩)), ?_⟩
      first | refine ob_q rfl rfl ⟨_, fun X Q h => o_load1 rfl rfl (g_end (h _ _ ⟨rfl, rfl⟩)), ?_⟩ | refine ob_q rfl rfl ⟨_, fun X Q h => o_loadE0 rfl (by assumption) rfl (g_end (h _ _ ⟨rfl, rfl⟩)), ?_⟩ | refine ob_q rfl rfl ⟨_, fun X Q h => o_loadE1 rfl (by assumption) rfl (g_end (h _ _ ⟨rfl, rfl⟩)), ?_⟩
      refine ob_q rfl rfl ⟨_, fun X Q h => o_nil rfl (g_end (h _ _ ⟨rfl, rfl⟩)), ?_⟩
      first | refine ob_q rfl rfl ⟨_, fun X Q h => o_field rfl (g_end (h _ _ ⟨rfl, rfl⟩)), ?_⟩ | refine ob_q rfl rfl ⟨_, fun X Q h => o_fieldR rfl (by omega) (g_end (h _ _ ⟨rfl, rfl⟩)), ?_⟩
      refine ob_q rfl rfl ⟨_, fun X Q h => o_load1 (v := .slice S us.length d) rfl rfl (g_end (h _ _ ⟨rfl, rfl⟩)), ?_⟩
      refine ob_q rfl rfl ⟨_, fun X Q h => o_loadN (v := x.val) rfl rfl rfl (g_end (h _ _ ⟨rfl, rfl⟩)), ?_⟩
      refine ob_l rfl rfl fun Qz hz => o_litP (e := 58) ElemD.enc [x] x.val.cells (fun w => by kernel_rfl) (by simp [ElemD.enc]) (by simp [maxLen]) fun _ => ?_
      refine g_end (hz _ _ ⟨_, ob_fin, ?_⟩)
      clear hz Qz
      refine ob_l rfl rfl fun Qz hz => o_append (xs := us) (ys := [x]) (by first | rfl | (simp only [List.length_map, List.length_take, List.length_append]; first | rfl | (congr 1; omega))) rfl rfl rfl rfl (fun _ => .inr trivial) (by simp [maxLen]; omega) (by simp; omega) fun S2 d2 => ?_
      refine g_end (hz _ _ ⟨_, ob_fin, ?_⟩)
      clear hz Qz
      refine ob_q rfl rfl ⟨_, fun X Q h => o_nil rfl (g_end (h _ _ ⟨rfl, rfl⟩)), ?_⟩
      first | refine ob_q rfl rfl ⟨_, fun X Q h => o_field rfl (g_end (h _ _ ⟨rfl, rfl⟩)), ?_⟩ | refine ob_q rfl rfl ⟨_, fun X Q h => o_fieldR rfl (by omega) (g_end (h _ _ ⟨rfl, rfl⟩)), ?_⟩
      refine ob_s [cellsB br #[.pointer (some ⟨r, 0, none⟩)] 94] rfl rfl rfl fun Qz hz => o_store (v := .slice S2 (us.length + 1) d2) rfl rfl rfl rfl rfl ?_
      refine g_end (hz _ _ ⟨_, ob_fin, ?_⟩)
      clear hz Qz
      refine ob_nil ?_
      refine G.norm r #[.slice S2 (us.length + 1) d2, .bool false] rfl ?_
      rw [← e]
      refine shutOES r ((pre ++ [x]).filter fun y => !hasC ElemD.cmp zs y) S2 d2 (n := us.length + 1) (by rw [e]; simp) ?_
      repeat (first | refine g_endt ?_ | refine g_end ?_ | refine g_then ?_ | refine g_in_normal ?_ | refine g_then_ret ?_ | refine g_in_ret ?_ | refine g_then_exit ?_ | refine g_in_exit rfl ?_ | refine g_in_exit_ne (by decide) ?_ | refine g_seq ?_ | refine g_region ?_ | refine g_block ?_ | refine g_ret ?_ | refine g_return_n ?_ | refine g_exit ?_ | refine g_skip ?_)
      exact g_next
  · intro D
    refine openOES r (ys.filter fun y => !hasC ElemD.cmp zs y) fun S d => ?_
    refine shutFES r (ys.filter fun y => !hasC ElemD.cmp zs y) S d rfl ?_
    repeat (first | refine g_endt ?_ | refine g_end ?_ | refine g_then ?_ | refine g_in_normal ?_ | refine g_then_ret ?_ | refine g_in_ret ?_ | refine g_then_exit ?_ | refine g_in_exit rfl ?_ | refine g_in_exit_ne (by decide) ?_ | refine g_seq ?_ | refine g_region ?_ | refine g_block ?_ | refine g_ret ?_ | refine g_return_n ?_ | refine g_exit ?_ | refine g_skip ?_)
    refine o_load1 (v := .pointer (some ⟨r, 0, none⟩)) rfl rfl ?_
    refine o_assign ?_
    first | refine g_endt ?_ | refine g_end ?_
    repeat (first | refine g_endt ?_ | refine g_end ?_ | refine g_then ?_ | refine g_in_normal ?_ | refine g_then_ret ?_ | refine g_in_ret ?_ | refine g_then_exit ?_ | refine g_in_exit rfl ?_ | refine g_in_exit_ne (by decide) ?_ | refine g_seq ?_ | refine g_region ?_ | refine g_block ?_ | refine g_ret ?_ | refine g_return_n ?_ | refine g_exit ?_ | refine g_skip ?_)
    exact ret1 rfl (resT rfl) ⟨r, rfl, rfl⟩
  · intro D c pre hp
    exact G.pu fun h => h.elim
end Go.Proofs.YtonaccfoelgpnaaGreat
/- Symbols held against each other by the reference. -/
namespace Go.Proofs.YtonaccfoelgpnaaGreat
open Go Go.Sl
attribute [local irreducible] Code.wpIn roundPost bodyPostM runL Ret Meets Begin

end Go.Proofs.YtonaccfoelgpnaaGreat
/- The references' comparisons of elements: one with, ahead of; found; put; sorted. -/
namespace Go.Proofs.YtonaccfoelgpnaaGreat
open Go Go.Sl
attribute [local irreducible] Code.wpIn roundPost bodyPostM runL Ret Meets Begin

/-- The first that is one with e. -/
def findE (l : List ElemD) (e : ElemD) : Option ElemD := getM ElemD.cmp l e
end Go.Proofs.YtonaccfoelgpnaaGreat
/- The references' elements in order: put, sorted. -/
namespace Go.Proofs.YtonaccfoelgpnaaGreat
open Go Go.Sl
attribute [local irreducible] Code.wpIn roundPost bodyPostM runL Ret Meets Begin

/-- Where an element would stand, looked for from behind. -/
def PosE (l : List ElemD) (e : ElemD) (i : Nat) : Prop := i ≤ l.length ∧ (∀ (j : Nat) (y : ElemD), i ≤ j → l[j]? = some y → 0 < y.cmp e) ∧ ∀ y, 0 < i → l[i - 1]? = some y → ¬ e.cmp y < 0
theorem PosE.find {l : List ElemD} {e : ElemD} {i : Nat} (hs : Srt ElemD.cmp l) (h : PosE l e i) : (∀ y, 0 < i → l[i - 1]? = some y → y.cmp e = 0 → FindR ElemD.cmp l e (i - 1) true) ∧ ((∀ y, 0 < i → l[i - 1]? = some y → y.cmp e ≠ 0) → FindR ElemD.cmp l e i false) := by
  obtain ⟨h1, h2, h3⟩ := h
  refine ⟨fun y h0 hy hz => ⟨by omega, fun _ => ⟨y, hy, hz⟩, fun e => by cases e⟩, fun hz => ⟨h1, fun e => (by cases e), fun _ => ⟨fun j y hj hy => ?_, h2⟩⟩⟩
  obtain ⟨z, hzz⟩ : ∃ z, l[i - 1]? = some z := ⟨_, List.getElem?_eq_getElem (by omega)⟩
  have h4 := h3 z (by omega) hzz
  have h5 := hz z (by omega) hzz
  have h6 := linElem.swap e z
  by_cases e2 : j = i - 1
  · subst e2; rw [hzz] at hy; cases hy; omega
  · exact linElem.trans y z e (hs j (i - 1) y z (by omega) hy hzz) (by omega)
/-- Elements in order, of several that are one the first. -/
def sortE (l : List ElemD) : List ElemD := l.foldl (insC ElemD.cmp) []
theorem sortE_srt : ∀ (l a : List ElemD), Srt ElemD.cmp a → Srt ElemD.cmp (l.foldl (insC ElemD.cmp) a)
  | [], _, h => h
  | x :: l, a, h => sortE_srt l _ (h.insC linElem x)
theorem sortE_len : ∀ (l a : List ElemD), (l.foldl (insC ElemD.cmp) a).length ≤ a.length + l.length
  | [], a => by simp
  | x :: l, a => by
    have h1 := sortE_len l (insC ElemD.cmp a x)
    have h2 := length_insC_le (f := ElemD.cmp) a x
    simp only [List.foldl_cons, List.length_cons]
    omega
end Go.Proofs.YtonaccfoelgpnaaGreat
/- Things told one by one, as values; a list that grows in a variable. -/
namespace Go.Proofs.YtonaccfoelgpnaaGreat
open Go Go.Sl
attribute [local irreducible] Code.wpIn roundPost bodyPostM runL Ret Meets Begin

def encVE (x : ElemD) : List Value := [ElemD.val x]
/-- A list that grows, in a variable. -/
def GrowE (p : Nat) (pre : List ElemD) : SProp := ex fun r : Option Addr × Nat => sl [cellsB p #[.slice r.1 pre.length r.2] 55, osl 58 encE 12 r.1 r.2 pre]
section
variable {w0 : World} {A : SProp} {L M : List SProp} {Φ : World → Prop}
theorem openGE (p : Nat) (pre : List ElemD) [tk : Take1 L (GrowE p pre) M] (h : ∀ S c, G w0 A (cellsB p #[.slice S pre.length c] 55 :: osl 58 encE 12 S c pre :: M) Φ) : G w0 A L Φ :=
  G.perm tk.perm (G.ex fun ⟨S, c⟩ => G.open_sl (h S c))
theorem shutGE (p : Nat) (pre : List ElemD) (S : Option Addr) (c : Nat) {n : Nat} (hn : pre.length = n) [tk : Take L [cellsB p #[.slice S n c] 55, osl 58 encE 12 S c pre] M] (h : G w0 A (GrowE p pre :: M) Φ) : G w0 A L Φ := by
  subst hn
  exact G.perm tk.perm (G.ent ((sl_append_to _ M).trans (Ent.star (show Ent _ (GrowE p pre) from fun _ _ x => ⟨(S, c), x⟩) (Ent.refl _))) h)
theorem newGE (p : Nat) [tk : Take1 L (cellsB p #[.slice none 0 0] 55) M] (h : G w0 A (GrowE p [] :: M) Φ) : G w0 A L Φ :=
  G.perm tk.perm (G.nil_slice 58 encE 12 (shutGE p [] none 0 rfl (M := M) (tk := ⟨List.Perm.swap _ _ _⟩) h))
end
end Go.Proofs.YtonaccfoelgpnaaGreat
/- What a slot's preferences support. -/
namespace Go.Proofs.YtonaccfoelgpnaaGreat
open Go Go.Sl
attribute [local irreducible] Exit.then Exit.inBlock Code.wpIn roundPost bodyPostM runL Ret Meets MeetsD Begin

def eOf (p : PrefD) : ElemD := ⟨p.id, p.attr, p.value, p.slot, false, 0⟩
def inQ (p : PrefD) : Bool := decide (p.kind = 1) || (p.slot && decide (p.kind = 3))
def outQ (p : PrefD) : Bool := !p.slot && decide (p.kind = 2)
def inE (ws : List PrefD) : List ElemD := sortE ((ws.filter inQ).map eOf)
def outE (ws : List PrefD) : List ElemD := sortE ((ws.filter outQ).map eOf)
def esl (ws : List PrefD) : List ElemD := (inE ws).filter fun y => !hasC ElemD.cmp (outE ws) y
theorem sortE_add (l : List ElemD) (x : ElemD) : sortE (l ++ [x]) = insC ElemD.cmp (sortE l) x := by unfold sortE; rw [List.foldl_append]; rfl
theorem sel_snoc (f : PrefD → Bool) (ws : List PrefD) (p : PrefD) : sortE (((ws ++ [p]).filter f).map eOf) = if f p = true then insC ElemD.cmp (sortE ((ws.filter f).map eOf)) (eOf p) else sortE ((ws.filter f).map eOf) := by
  rw [List.filter_append]
  cases h : f p with
  | true => simp [h, sortE_add]
  | false => simp [h]
theorem sel_len (f : PrefD → Bool) (ws : List PrefD) : (sortE ((ws.filter f).map eOf)).length ≤ ws.length := by
  have h1 := sortE_len ((ws.filter f).map eOf) []
  have h2 := List.length_filter_le f ws
  unfold sortE
  simp at h1 ⊢; omega
theorem sel_srt (l : List ElemD) : Srt ElemD.cmp (sortE l) := sortE_srt l [] Srt.nil
abbrev cEl (c : Nat) (e : ElemD) : SProp := cellsB c e.val.cells 58
set_option maxHeartbeats 4000000 in
theorem elems_spec (A : Option Addr) (n c : Nat) (ws : List PrefD) (hl : ws.length = n) (hm : n ≤ 90000) {es : List ElemD} (hes : esl ws = es) : Ctr Tryz.prog 43 [.slice A n c] [psl encP 16 A ws]
    (fun v M => ∃ r, v = .pointer (some ⟨r, 0, none⟩) ∧ M = [SetAES r es]) := by
  refine spec_of Tryz.func43 rfl Tryz.ntmps43 rfl fun w0 F => ?_
  -- hide
  -- ponder/pref.elems
  subst hes
  repeat (first | refine g_endt ?_ | refine g_end ?_ | refine g_then ?_ | refine g_in_normal ?_ | refine g_then_ret ?_ | refine g_in_ret ?_ | refine g_then_exit ?_ | refine g_in_exit rfl ?_ | refine g_in_exit_ne (by decide) ?_ | refine g_seq ?_ | refine g_region ?_ | refine g_block ?_ | refine g_ret ?_ | refine g_return_n ?_ | refine g_exit ?_ | refine g_skip ?_)
  refine g_hideR fun Q_ hQ_ => ?_
  refine o_assign ?_
  refine g_end (G.imp (hQ_ .normal _) ?_)
  clear hQ_ Q_
  try refine g_then ?_
  repeat (first | refine g_endt ?_ | refine g_end ?_ | refine g_then ?_ | refine g_in_normal ?_ | refine g_then_ret ?_ | refine g_in_ret ?_ | refine g_then_exit ?_ | refine g_in_exit rfl ?_ | refine g_in_exit_ne (by decide) ?_ | refine g_seq ?_ | refine g_region ?_ | refine g_block ?_ | refine g_ret ?_ | refine g_return_n ?_ | refine g_exit ?_ | refine g_skip ?_)
  refine g_hideR fun Q_ hQ_ => ?_
  refine o_call (NewES_spec) rfl rfl ?_
  rintro _ _ ⟨pi, rfl, rfl⟩
  refine o_assign ?_
  refine g_end (G.imp (hQ_ .normal _) ?_)
  clear hQ_ Q_
  try refine g_then ?_
  repeat (first | refine g_endt ?_ | refine g_end ?_ | refine g_then ?_ | refine g_in_normal ?_ | refine g_then_ret ?_ | refine g_in_ret ?_ | refine g_then_exit ?_ | refine g_in_exit rfl ?_ | refine g_in_exit_ne (by decide) ?_ | refine g_seq ?_ | refine g_region ?_ | refine g_block ?_ | refine g_ret ?_ | refine g_return_n ?_ | refine g_exit ?_ | refine g_skip ?_)
  refine g_hideR fun Q_ hQ_ => ?_
  refine o_call (NewES_spec) rfl rfl ?_
  rintro _ _ ⟨po, rfl, rfl⟩
  refine o_assign ?_
  refine g_end (G.imp (hQ_ .normal _) ?_)
  clear hQ_ Q_
  try refine g_then ?_
  repeat (first | refine g_endt ?_ | refine g_end ?_ | refine g_then ?_ | refine g_in_normal ?_ | refine g_then_ret ?_ | refine g_in_ret ?_ | refine g_then_exit ?_ | refine g_in_exit rfl ?_ | refine g_in_exit_ne (by decide) ?_ | refine g_seq ?_ | refine g_region ?_ | refine g_block ?_ | refine g_ret ?_ | refine g_return_n ?_ | refine g_exit ?_ | refine g_skip ?_)
  refine g_hideR fun Q_ hQ_ => ?_
  refine o_move ?_
  refine o_len rfl rfl ?_
  refine o_move ?_
  refine g_end (G.imp (hQ_ .normal _) ?_)
  clear hQ_ Q_
  try refine g_then ?_
  repeat (first | refine g_endt ?_ | refine g_end ?_ | refine g_then ?_ | refine g_in_normal ?_ | refine g_then_ret ?_ | refine g_in_ret ?_ | refine g_then_exit ?_ | refine g_in_exit rfl ?_ | refine g_in_exit_ne (by decide) ?_ | refine g_seq ?_ | refine g_region ?_ | refine g_block ?_ | refine g_ret ?_ | refine g_return_n ?_ | refine g_exit ?_ | refine g_skip ?_)
  refine g_loop (σ := {i : Nat // i ≤ n}) (S := fun i => [(3, .pointer (some ⟨pi, 0, none⟩)), (4, .pointer (some ⟨po, 0, none⟩)), (10, .slice A n c), (11, .int .i64 (n : Int)), (12, .int .i64 (i.1 : Int))]) (H := fun i => [SetAES pi (inE (ws.take i.1)), SetAES po (outE (ws.take i.1)), psl encP 16 A ws]) (μ := fun i => n - i.1) (s0 := ⟨0, Nat.zero_le _⟩) (Sat.mem ⟨rfl, rfl, rfl, rfl, rfl, trivial⟩) (t := (inferInstance : Take _ [SetAES pi [], SetAES po [], psl encP 16 A ws] _)) ?_
  rintro ⟨i, hi⟩ ρ'
  dsimp only at hi ⊢
  have hil : (inE (ws.take i)).length ≤ n := Nat.le_trans (sel_len inQ _) (by simp; omega)
  have hol : (outE (ws.take i)).length ≤ n := Nat.le_trans (sel_len outQ _) (by simp; omega)
  have his : Srt ElemD.cmp (inE (ws.take i)) := sel_srt _
  have hos : Srt ElemD.cmp (outE (ws.take i)) := sel_srt _
  repeat (first | refine g_endt ?_ | refine g_end ?_ | refine g_then ?_ | refine g_in_normal ?_ | refine g_then_ret ?_ | refine g_in_ret ?_ | refine g_then_exit ?_ | refine g_in_exit rfl ?_ | refine g_in_exit_ne (by decide) ?_ | refine g_seq ?_ | refine g_region ?_ | refine g_block ?_ | refine g_ret ?_ | refine g_return_n ?_ | refine g_exit ?_ | refine g_skip ?_)
  refine g_hideR fun Q_ hQ_ => ?_
  refine o_lss rfl rfl ?_
  refine g_end (G.imp (hQ_ .normal _) ?_)
  clear hQ_ Q_
  try refine g_then ?_
  by_cases hin : i < n
  · first | refine g_seq (g_cond_t rfl (by first | rfl | (simp; done) | (simp; omega) | (simp; assumption)) ?_) | refine g_cond_t rfl (by first | rfl | (simp; done) | (simp; omega) | (simp; assumption)) ?_
    obtain ⟨p, hp⟩ : ∃ p, ws[i]? = some p := ⟨_, List.getElem?_eq_getElem (by omega)⟩
    have hI : inE (ws.take (i + 1)) = if inQ p = true then insC ElemD.cmp (inE (ws.take i)) (eOf p) else inE (ws.take i) := by rw [List.take_add_one, hp]; exact sel_snoc inQ _ p
    have hO : outE (ws.take (i + 1)) = if outQ p = true then insC ElemD.cmp (outE (ws.take i)) (eOf p) else outE (ws.take i) := by rw [List.take_add_one, hp]; exact sel_snoc outQ _ p
    generalize inE (ws.take i) = xs at hil his hI ⊢
    generalize outE (ws.take i) = ys at hol hos hO ⊢
    obtain ⟨sl, hsl⟩ : ∃ sl, p.slot = sl := ⟨_, rfl⟩
    have hss := Slot_spec p
    rw [hsl] at hss
    have heo : eOf p = ⟨p.id, p.attr, p.value, sl, false, 0⟩ := by unfold eOf; rw [hsl]
    have hIq : inQ p = (decide (p.kind = 1) || (sl && decide (p.kind = 3))) := by unfold inQ; rw [hsl]
    have hOq : outQ p = (!sl && decide (p.kind = 2)) := by unfold outQ; rw [hsl]
    refine g_skip ?_
    refine g_then ?_
    refine g_cut (σ := Unit) (ds' := []) (S := fun _ => [(3, .pointer (some ⟨pi, 0, none⟩)), (4, .pointer (some ⟨po, 0, none⟩)), (10, .slice A n c), (11, .int .i64 (n : Int)), (12, .int .i64 (i : Int))]) (H := fun _ => [SetAES pi (inE (ws.take (i + 1))), SetAES po (outE (ws.take (i + 1))), psl encP 16 A ws]) (ok := fun _ => True) ?_ ?_
    · skip
      repeat (first | refine g_endt ?_ | refine g_end ?_ | refine g_then ?_ | refine g_in_normal ?_ | refine g_then_ret ?_ | refine g_in_ret ?_ | refine g_then_exit ?_ | refine g_in_exit rfl ?_ | refine g_in_exit_ne (by decide) ?_ | refine g_seq ?_ | refine g_region ?_ | refine g_block ?_ | refine g_ret ?_ | refine g_return_n ?_ | refine g_exit ?_ | refine g_skip ?_)
      repeat (first | refine g_endt ?_ | refine g_end ?_ | refine g_then ?_ | refine g_in_normal ?_ | refine g_then_ret ?_ | refine g_in_ret ?_ | refine g_then_exit ?_ | refine g_in_exit rfl ?_ | refine g_in_exit_ne (by decide) ?_ | refine g_seq ?_ | refine g_region ?_ | refine g_block ?_ | refine g_ret ?_ | refine g_return_n ?_ | refine g_exit ?_ | refine g_skip ?_)
      refine g_hideR fun Q_ hQ_ => ?_
      refine o_indexR (ys := ws) (i := i) rfl rfl rfl (by omega) hl rfl ?_
      refine o_loadE (ys := ws) rfl rfl hp ?_
      refine o_alloc fun c6 => ?_
      refine o_store (v := p.val) rfl rfl rfl rfl rfl ?_
      refine g_end (G.imp (hQ_ .normal _) ?_)
      clear hQ_ Q_
      try refine g_then ?_
      refine G.norm c6 p.val.cells rfl ?_
      repeat (first | refine g_endt ?_ | refine g_end ?_ | refine g_then ?_ | refine g_in_normal ?_ | refine g_then_ret ?_ | refine g_in_ret ?_ | refine g_then_exit ?_ | refine g_in_exit rfl ?_ | refine g_in_exit_ne (by decide) ?_ | refine g_seq ?_ | refine g_region ?_ | refine g_block ?_ | refine g_ret ?_ | refine g_return_n ?_ | refine g_exit ?_ | refine g_skip ?_)
      refine g_hideR fun Q_ hQ_ => ?_
      first | refine o_field rfl ?_ | refine o_fieldR rfl (by omega) ?_
      refine o_loadN (v := p.id.val) rfl rfl rfl ?_
      first | refine o_field rfl ?_ | refine o_fieldR rfl (by omega) ?_
      refine o_loadN (v := p.attr.val) rfl rfl rfl ?_
      first | refine o_field rfl ?_ | refine o_fieldR rfl (by omega) ?_
      refine o_loadN (v := p.value.val) rfl rfl rfl ?_
      refine o_build (ElemD.val ⟨p.id, p.attr, p.value, false, false, 0⟩) (fun w => by kernel_rfl) ?_
      refine o_alloc fun c7 => ?_
      refine o_store (v := ElemD.val ⟨p.id, p.attr, p.value, false, false, 0⟩) rfl rfl rfl rfl rfl ?_
      refine g_end (G.imp (hQ_ .normal _) ?_)
      clear hQ_ Q_
      try refine g_then ?_
      refine G.norm c7 (ElemD.val ⟨p.id, p.attr, p.value, false, false, 0⟩).cells rfl ?_
      refine g_cut (σ := List ElemD × List ElemD) (ds' := []) (S := fun _ => [(3, .pointer (some ⟨pi, 0, none⟩)), (4, .pointer (some ⟨po, 0, none⟩)), (6, .pointer (some ⟨c6, 0, none⟩)), (7, .pointer (some ⟨c7, 0, none⟩)), (10, .slice A n c), (11, .int .i64 (n : Int)), (12, .int .i64 (i : Int))])
        (H := fun t => [cPf c6 p, cEl c7 (eOf p), SetAES pi t.1, SetAES po t.2, psl encP 16 A ws]) (ok := fun t => t.1.length ≤ n + 1 ∧ Srt ElemD.cmp t.1 ∧ inE (ws.take (i + 1)) = (if p.kind = 1 then insC ElemD.cmp t.1 (eOf p) else t.1) ∧ outE (ws.take (i + 1)) = t.2) ?_ ?_
      · skip
        repeat (first | refine g_endt ?_ | refine g_end ?_ | refine g_then ?_ | refine g_in_normal ?_ | refine g_then_ret ?_ | refine g_in_ret ?_ | refine g_then_exit ?_ | refine g_in_exit rfl ?_ | refine g_in_exit_ne (by decide) ?_ | refine g_seq ?_ | refine g_region ?_ | refine g_block ?_ | refine g_ret ?_ | refine g_return_n ?_ | refine g_exit ?_ | refine g_skip ?_)
        refine g_hideR fun Q_ hQ_ => ?_
        refine o_loadN (v := p.val) rfl rfl rfl ?_
        refine o_call (hss) rfl rfl ?_
        rintro _ _ ⟨rfl, rfl⟩
        refine g_end (G.imp (hQ_ .normal _) ?_)
        clear hQ_ Q_
        try refine g_then ?_
        cases sl with
        | true =>
          first | refine g_seq (g_cond_t rfl (by first | rfl | (simp; done) | (simp; omega) | (simp; assumption)) ?_) | refine g_cond_t rfl (by first | rfl | (simp; done) | (simp; omega) | (simp; assumption)) ?_
          repeat (first | refine g_endt ?_ | refine g_end ?_ | refine g_then ?_ | refine g_in_normal ?_ | refine g_then_ret ?_ | refine g_in_ret ?_ | refine g_then_exit ?_ | refine g_in_exit rfl ?_ | refine g_in_exit_ne (by decide) ?_ | refine g_seq ?_ | refine g_region ?_ | refine g_block ?_ | refine g_ret ?_ | refine g_return_n ?_ | refine g_exit ?_ | refine g_skip ?_)
          refine g_hideR fun Q_ hQ_ => ?_
          first | refine o_field rfl ?_ | refine o_fieldR rfl (by omega) ?_
          refine o_store (v := .bool true) rfl rfl rfl rfl rfl ?_
          refine g_end (G.imp (hQ_ .normal _) ?_)
          clear hQ_ Q_
          try refine g_then ?_
          refine G.norm c7 (eOf p).val.cells (by rw [heo]; rfl) ?_
          have hO2 : outE (ws.take (i + 1)) = ys := by rw [hO, hOq]; rfl
          by_cases h3 : p.kind = 3
          · skip
            repeat (first | refine g_endt ?_ | refine g_end ?_ | refine g_then ?_ | refine g_in_normal ?_ | refine g_then_ret ?_ | refine g_in_ret ?_ | refine g_then_exit ?_ | refine g_in_exit rfl ?_ | refine g_in_exit_ne (by decide) ?_ | refine g_seq ?_ | refine g_region ?_ | refine g_block ?_ | refine g_ret ?_ | refine g_return_n ?_ | refine g_exit ?_ | refine g_skip ?_)
            refine g_hideR fun Q_ hQ_ => ?_
            first | refine o_field rfl ?_ | refine o_fieldR rfl (by omega) ?_
            refine o_load1 (v := .int .i64 p.kind) rfl rfl ?_
            refine o_eqlT (t := true) rfl rfl (by simpa using h3) ?_
            refine g_end (G.imp (hQ_ .normal _) ?_)
            clear hQ_ Q_
            try refine g_then ?_
            first | refine g_seq (g_cond_t rfl (by first | rfl | (simp; done) | (simp; omega) | (simp; assumption)) ?_) | refine g_cond_t rfl (by first | rfl | (simp; done) | (simp; omega) | (simp; assumption)) ?_
            repeat (first | refine g_endt ?_ | refine g_end ?_ | refine g_then ?_ | refine g_in_normal ?_ | refine g_then_ret ?_ | refine g_in_ret ?_ | refine g_then_exit ?_ | refine g_in_exit rfl ?_ | refine g_in_exit_ne (by decide) ?_ | refine g_seq ?_ | refine g_region ?_ | refine g_block ?_ | refine g_ret ?_ | refine g_return_n ?_ | refine g_exit ?_ | refine g_skip ?_)
            refine g_hideR fun Q_ hQ_ => ?_
            refine o_move ?_
            refine o_loadN (v := (eOf p).val) rfl rfl rfl ?_
            refine o_call (PutCES_spec pi xs (eOf p) his (by omega)) rfl rfl ?_
            rintro _ _ ⟨rfl, rfl⟩
            refine g_end (G.imp (hQ_ .normal _) ?_)
            clear hQ_ Q_
            try refine g_then ?_
            have hlc := length_insC_le (f := ElemD.cmp) xs (eOf p)
            repeat (first | refine g_endt ?_ | refine g_end ?_ | refine g_then ?_ | refine g_in_normal ?_ | refine g_then_ret ?_ | refine g_in_ret ?_ | refine g_then_exit ?_ | refine g_in_exit rfl ?_ | refine g_in_exit_ne (by decide) ?_ | refine g_seq ?_ | refine g_region ?_ | refine g_block ?_ | refine g_ret ?_ | refine g_return_n ?_ | refine g_exit ?_ | refine g_skip ?_)
            exact g_meets (insC ElemD.cmp xs (eOf p), ys) ⟨by show (insC ElemD.cmp xs (eOf p)).length ≤ n + 1; omega, his.insC linElem _, by rw [hI, hIq, if_neg (show ¬ p.kind = 1 by omega), if_pos (by simp [h3])], hO2⟩ (Sat.mem ⟨rfl, rfl, rfl, rfl, rfl, rfl, rfl, trivial⟩)
          · skip
            repeat (first | refine g_endt ?_ | refine g_end ?_ | refine g_then ?_ | refine g_in_normal ?_ | refine g_then_ret ?_ | refine g_in_ret ?_ | refine g_then_exit ?_ | refine g_in_exit rfl ?_ | refine g_in_exit_ne (by decide) ?_ | refine g_seq ?_ | refine g_region ?_ | refine g_block ?_ | refine g_ret ?_ | refine g_return_n ?_ | refine g_exit ?_ | refine g_skip ?_)
            refine g_hideR fun Q_ hQ_ => ?_
            first | refine o_field rfl ?_ | refine o_fieldR rfl (by omega) ?_
            refine o_load1 (v := .int .i64 p.kind) rfl rfl ?_
            refine o_eqlT (t := false) rfl rfl (by simpa using h3) ?_
            refine g_end (G.imp (hQ_ .normal _) ?_)
            clear hQ_ Q_
            try refine g_then ?_
            first | refine g_seq (g_cond_f rfl (by first | rfl | (simp; done) | (simp; omega) | (simp; assumption)) ?_) | refine g_cond_f rfl (by first | rfl | (simp; done) | (simp; omega) | (simp; assumption)) ?_
            repeat (first | refine g_endt ?_ | refine g_end ?_ | refine g_then ?_ | refine g_in_normal ?_ | refine g_then_ret ?_ | refine g_in_ret ?_ | refine g_then_exit ?_ | refine g_in_exit rfl ?_ | refine g_in_exit_ne (by decide) ?_ | refine g_seq ?_ | refine g_region ?_ | refine g_block ?_ | refine g_ret ?_ | refine g_return_n ?_ | refine g_exit ?_ | refine g_skip ?_)
            exact g_meets (xs, ys) ⟨by show xs.length ≤ n + 1; omega, his, by rw [hI, hIq]; by_cases h1 : p.kind = 1 <;> simp [h1, h3], hO2⟩ (Sat.mem ⟨rfl, rfl, rfl, rfl, rfl, rfl, rfl, trivial⟩)
        | false =>
          first | refine g_seq (g_cond_f rfl (by first | rfl | (simp; done) | (simp; omega) | (simp; assumption)) ?_) | refine g_cond_f rfl (by first | rfl | (simp; done) | (simp; omega) | (simp; assumption)) ?_
          refine G.norm c7 (eOf p).val.cells (by rw [heo]) ?_
          have hI2 : inE (ws.take (i + 1)) = if p.kind = 1 then insC ElemD.cmp xs (eOf p) else xs := by rw [hI, hIq]; by_cases h1 : p.kind = 1 <;> simp [h1]
          by_cases h2 : p.kind = 2
          · skip
            repeat (first | refine g_endt ?_ | refine g_end ?_ | refine g_then ?_ | refine g_in_normal ?_ | refine g_then_ret ?_ | refine g_in_ret ?_ | refine g_then_exit ?_ | refine g_in_exit rfl ?_ | refine g_in_exit_ne (by decide) ?_ | refine g_seq ?_ | refine g_region ?_ | refine g_block ?_ | refine g_ret ?_ | refine g_return_n ?_ | refine g_exit ?_ | refine g_skip ?_)
            refine g_hideR fun Q_ hQ_ => ?_
            first | refine o_field rfl ?_ | refine o_fieldR rfl (by omega) ?_
            refine o_load1 (v := .int .i64 p.kind) rfl rfl ?_
            refine o_eqlT (t := true) rfl rfl (by simpa using h2) ?_
            refine g_end (G.imp (hQ_ .normal _) ?_)
            clear hQ_ Q_
            try refine g_then ?_
            first | refine g_seq (g_cond_t rfl (by first | rfl | (simp; done) | (simp; omega) | (simp; assumption)) ?_) | refine g_cond_t rfl (by first | rfl | (simp; done) | (simp; omega) | (simp; assumption)) ?_
            repeat (first | refine g_endt ?_ | refine g_end ?_ | refine g_then ?_ | refine g_in_normal ?_ | refine g_then_ret ?_ | refine g_in_ret ?_ | refine g_then_exit ?_ | refine g_in_exit rfl ?_ | refine g_in_exit_ne (by decide) ?_ | refine g_seq ?_ | refine g_region ?_ | refine g_block ?_ | refine g_ret ?_ | refine g_return_n ?_ | refine g_exit ?_ | refine g_skip ?_)
            refine g_hideR fun Q_ hQ_ => ?_
            refine o_move ?_
            refine o_loadN (v := (eOf p).val) rfl rfl rfl ?_
            refine o_call (PutCES_spec po ys (eOf p) hos (by omega)) rfl rfl ?_
            rintro _ _ ⟨rfl, rfl⟩
            refine g_end (G.imp (hQ_ .normal _) ?_)
            clear hQ_ Q_
            try refine g_then ?_
            repeat (first | refine g_endt ?_ | refine g_end ?_ | refine g_then ?_ | refine g_in_normal ?_ | refine g_then_ret ?_ | refine g_in_ret ?_ | refine g_then_exit ?_ | refine g_in_exit rfl ?_ | refine g_in_exit_ne (by decide) ?_ | refine g_seq ?_ | refine g_region ?_ | refine g_block ?_ | refine g_ret ?_ | refine g_return_n ?_ | refine g_exit ?_ | refine g_skip ?_)
            exact g_meets (xs, insC ElemD.cmp ys (eOf p)) ⟨by show xs.length ≤ n + 1; omega, his, hI2, by rw [hO, hOq, if_pos (by simp [h2])]⟩ (Sat.mem ⟨rfl, rfl, rfl, rfl, rfl, rfl, rfl, trivial⟩)
          · skip
            repeat (first | refine g_endt ?_ | refine g_end ?_ | refine g_then ?_ | refine g_in_normal ?_ | refine g_then_ret ?_ | refine g_in_ret ?_ | refine g_then_exit ?_ | refine g_in_exit rfl ?_ | refine g_in_exit_ne (by decide) ?_ | refine g_seq ?_ | refine g_region ?_ | refine g_block ?_ | refine g_ret ?_ | refine g_return_n ?_ | refine g_exit ?_ | refine g_skip ?_)
            refine g_hideR fun Q_ hQ_ => ?_
            first | refine o_field rfl ?_ | refine o_fieldR rfl (by omega) ?_
            refine o_load1 (v := .int .i64 p.kind) rfl rfl ?_
            refine o_eqlT (t := false) rfl rfl (by simpa using h2) ?_
            refine g_end (G.imp (hQ_ .normal _) ?_)
            clear hQ_ Q_
            try refine g_then ?_
            first | refine g_seq (g_cond_f rfl (by first | rfl | (simp; done) | (simp; omega) | (simp; assumption)) ?_) | refine g_cond_f rfl (by first | rfl | (simp; done) | (simp; omega) | (simp; assumption)) ?_
            repeat (first | refine g_endt ?_ | refine g_end ?_ | refine g_then ?_ | refine g_in_normal ?_ | refine g_then_ret ?_ | refine g_in_ret ?_ | refine g_then_exit ?_ | refine g_in_exit rfl ?_ | refine g_in_exit_ne (by decide) ?_ | refine g_seq ?_ | refine g_region ?_ | refine g_block ?_ | refine g_ret ?_ | refine g_return_n ?_ | refine g_exit ?_ | refine g_skip ?_)
            exact g_meets (xs, ys) ⟨by show xs.length ≤ n + 1; omega, his, hI2, by rw [hO, hOq, if_neg (by simp [h2])]⟩ (Sat.mem ⟨rfl, rfl, rfl, rfl, rfl, rfl, rfl, trivial⟩)
      rintro ⟨xs2, ys2⟩ ρ2 ⟨hx1, hx2, hx3, hx4⟩
      dsimp only at hx1 hx2 hx3 hx4 ⊢
      rw [hx3, hx4]
      by_cases h1 : p.kind = 1
      · rw [if_pos h1]
        repeat (first | refine g_endt ?_ | refine g_end ?_ | refine g_then ?_ | refine g_in_normal ?_ | refine g_then_ret ?_ | refine g_in_ret ?_ | refine g_then_exit ?_ | refine g_in_exit rfl ?_ | refine g_in_exit_ne (by decide) ?_ | refine g_seq ?_ | refine g_region ?_ | refine g_block ?_ | refine g_ret ?_ | refine g_return_n ?_ | refine g_exit ?_ | refine g_skip ?_)
        refine g_hideR fun Q_ hQ_ => ?_
        first | refine o_field rfl ?_ | refine o_fieldR rfl (by omega) ?_
        refine o_load1 (v := .int .i64 p.kind) rfl rfl ?_
        refine o_eqlT (t := true) rfl rfl (by simpa using h1) ?_
        refine g_end (G.imp (hQ_ .normal _) ?_)
        clear hQ_ Q_
        try refine g_then ?_
        first | refine g_seq (g_cond_t rfl (by first | rfl | (simp; done) | (simp; omega) | (simp; assumption)) ?_) | refine g_cond_t rfl (by first | rfl | (simp; done) | (simp; omega) | (simp; assumption)) ?_
        repeat (first | refine g_endt ?_ | refine g_end ?_ | refine g_then ?_ | refine g_in_normal ?_ | refine g_then_ret ?_ | refine g_in_ret ?_ | refine g_then_exit ?_ | refine g_in_exit rfl ?_ | refine g_in_exit_ne (by decide) ?_ | refine g_seq ?_ | refine g_region ?_ | refine g_block ?_ | refine g_ret ?_ | refine g_return_n ?_ | refine g_exit ?_ | refine g_skip ?_)
        refine g_hideR fun Q_ hQ_ => ?_
        refine o_move ?_
        refine o_loadN (v := (eOf p).val) rfl rfl rfl ?_
        refine o_call (PutCES_spec pi xs2 (eOf p) hx2 (by omega)) rfl rfl ?_
        rintro _ _ ⟨rfl, rfl⟩
        refine g_end (G.imp (hQ_ .normal _) ?_)
        clear hQ_ Q_
        try refine g_then ?_
        repeat (first | refine g_endt ?_ | refine g_end ?_ | refine g_then ?_ | refine g_in_normal ?_ | refine g_then_ret ?_ | refine g_in_ret ?_ | refine g_then_exit ?_ | refine g_in_exit rfl ?_ | refine g_in_exit_ne (by decide) ?_ | refine g_seq ?_ | refine g_region ?_ | refine g_block ?_ | refine g_ret ?_ | refine g_return_n ?_ | refine g_exit ?_ | refine g_skip ?_)
        exact g_meets () trivial (Sat.mem ⟨rfl, rfl, rfl, rfl, rfl, trivial⟩)
      · rw [if_neg h1]
        repeat (first | refine g_endt ?_ | refine g_end ?_ | refine g_then ?_ | refine g_in_normal ?_ | refine g_then_ret ?_ | refine g_in_ret ?_ | refine g_then_exit ?_ | refine g_in_exit rfl ?_ | refine g_in_exit_ne (by decide) ?_ | refine g_seq ?_ | refine g_region ?_ | refine g_block ?_ | refine g_ret ?_ | refine g_return_n ?_ | refine g_exit ?_ | refine g_skip ?_)
        refine g_hideR fun Q_ hQ_ => ?_
        first | refine o_field rfl ?_ | refine o_fieldR rfl (by omega) ?_
        refine o_load1 (v := .int .i64 p.kind) rfl rfl ?_
        refine o_eqlT (t := false) rfl rfl (by simpa using h1) ?_
        refine g_end (G.imp (hQ_ .normal _) ?_)
        clear hQ_ Q_
        try refine g_then ?_
        first | refine g_seq (g_cond_f rfl (by first | rfl | (simp; done) | (simp; omega) | (simp; assumption)) ?_) | refine g_cond_f rfl (by first | rfl | (simp; done) | (simp; omega) | (simp; assumption)) ?_
        repeat (first | refine g_endt ?_ | refine g_end ?_ | refine g_then ?_ | refine g_in_normal ?_ | refine g_then_ret ?_ | refine g_in_ret ?_ | refine g_then_exit ?_ | refine g_in_exit rfl ?_ | refine g_in_exit_ne (by decide) ?_ | refine g_seq ?_ | refine g_region ?_ | refine g_block ?_ | refine g_ret ?_ | refine g_return_n ?_ | refine g_exit ?_ | refine g_skip ?_)
        exact g_meets () trivial (Sat.mem ⟨rfl, rfl, rfl, rfl, rfl, trivial⟩)
    rintro _ ρ3 _
    repeat (first | refine g_endt ?_ | refine g_end ?_ | refine g_then ?_ | refine g_in_normal ?_ | refine g_then_ret ?_ | refine g_in_ret ?_ | refine g_then_exit ?_ | refine g_in_exit rfl ?_ | refine g_in_exit_ne (by decide) ?_ | refine g_seq ?_ | refine g_region ?_ | refine g_block ?_ | refine g_ret ?_ | refine g_return_n ?_ | refine g_exit ?_ | refine g_skip ?_)
    refine g_hideR fun Q_ hQ_ => ?_
    refine o_add (c := ((i + 1 : Nat) : Int)) rfl rfl (by omega) (by omega) (by omega) ?_
    refine o_move ?_
    refine g_end (G.imp (hQ_ .normal _) ?_)
    clear hQ_ Q_
    try refine g_then ?_
    repeat (first | refine g_endt ?_ | refine g_end ?_ | refine g_then ?_ | refine g_in_normal ?_ | refine g_then_ret ?_ | refine g_in_ret ?_ | refine g_then_exit ?_ | refine g_in_exit rfl ?_ | refine g_in_exit_ne (by decide) ?_ | refine g_seq ?_ | refine g_region ?_ | refine g_block ?_ | refine g_ret ?_ | refine g_return_n ?_ | refine g_exit ?_ | refine g_skip ?_)
    exact g_meets ⟨i + 1, hin⟩ (by show n - (i + 1) < n - i; omega) (Sat.mem ⟨rfl, rfl, rfl, rfl, rfl, trivial⟩)
  · first | refine g_seq (g_cond_f rfl (by simp; omega) ?_) | refine g_cond_f rfl (by simp; omega) ?_
    rw [List.take_of_length_le (by omega)] at hil hol hos ⊢
    unfold esl
    repeat (first | refine g_endt ?_ | refine g_end ?_ | refine g_then ?_ | refine g_in_normal ?_ | refine g_then_ret ?_ | refine g_in_ret ?_ | refine g_then_exit ?_ | refine g_in_exit rfl ?_ | refine g_in_exit_ne (by decide) ?_ | refine g_seq ?_ | refine g_region ?_ | refine g_block ?_ | refine g_ret ?_ | refine g_return_n ?_ | refine g_exit ?_ | refine g_skip ?_)
    refine g_hideR fun Q_ hQ_ => ?_
    refine o_move ?_
    refine o_move ?_
    refine o_call (LessES_spec pi po (inE ws) (outE ws) hos (by omega) (by omega)) rfl rfl ?_
    rintro _ _ ⟨r, rfl, rfl⟩
    refine o_assign ?_
    refine g_end (G.imp (hQ_ .normal _) ?_)
    clear hQ_ Q_
    try refine g_then ?_
    repeat (first | refine g_endt ?_ | refine g_end ?_ | refine g_then ?_ | refine g_in_normal ?_ | refine g_then_ret ?_ | refine g_in_ret ?_ | refine g_then_exit ?_ | refine g_in_exit rfl ?_ | refine g_in_exit_ne (by decide) ?_ | refine g_seq ?_ | refine g_region ?_ | refine g_block ?_ | refine g_ret ?_ | refine g_return_n ?_ | refine g_exit ?_ | refine g_skip ?_)
    exact ret1 (K := [SetAES r ((inE ws).filter fun y => !hasC ElemD.cmp (outE ws) y)]) rfl (resT rfl) ⟨r, rfl, rfl⟩
/-! ### All slots -/
def allE (ps : List PrefD) (zs : List PgSP) : List ElemD := zs.flatMap fun z => esl (slotL ps z.k)
theorem allE_snoc (ps : List PrefD) (pre : List PgSP) (x : PgSP) : allE ps (pre ++ [x]) = allE ps pre ++ esl (slotL ps x.k) := by unfold allE; simp
theorem allE_pre {ps : List PrefD} {zs pre : List PgSP} {x : PgSP} (h : (pre ++ [x]) <+: zs) {q : List ElemD} (hq : q <+: esl (slotL ps x.k)) : allE ps pre ++ q <+: allE ps zs := by
  obtain ⟨t, rfl⟩ := h
  obtain ⟨u, hu⟩ := hq
  refine ⟨u ++ allE ps t, ?_⟩
  have e : List.flatMap (fun z => esl (slotL ps z.k)) [x] = q ++ u := by rw [hu]; simp
  unfold allE
  rw [List.flatMap_append, List.flatMap_append, e]
  simp
theorem exIn {α : Type} (C : α → List SProp) (x : α) : Ent (sl (C x)) (sl [ex fun x => sl (C x)]) := Ent.trans (show Ent (sl (C x)) (ex fun x => sl (C x)) from fun B h hx => ⟨x, hx⟩) (sl_one_of _)
abbrev cYe (q l : Nat) : SProp := cellsB q #[.func (.yield l) #[] #[]] 90
abbrev pMp (b m : Nat) : SProp := pblk b (.cells #[.pointer (some ⟨m, 0, none⟩)] 46 (0, 0))
abbrev pEs (b p : Nat) : SProp := pblk b (.cells #[.pointer (some ⟨p, 0, none⟩)] 94 (0, 0))
set_option maxHeartbeats 4000000 in
theorem Elems1_iter0 (m : Nat) (room : Int) (ps : List PrefD) (hp : ps.length ≤ 90000) (b1 : Nat) (zs0 : List ElemD) (hz0 : ∀ zs, SlI zs ps → allE ps zs = zs0) (J0 : List SProp) {M : List SProp} [tk : Take1 J0 (MemP m room ps) M] [HasP J0 (pM b1 m)] :
    Iter Tryz.prog 41 [.pointer (some ⟨b1, 0, none⟩)] encVE zs0 J0 := by
  intro l J Jx hJ hy
  subst hJ
  refine spec_of Tryz.func41 rfl Tryz.ntmps41 rfl fun w0 F => ?_
  -- hide
  -- (*ponder/pref.Memory).Elems$1
  refine G.dup (pM b1 m) ?_
  repeat (first | refine g_endt ?_ | refine g_end ?_ | refine g_then ?_ | refine g_in_normal ?_ | refine g_then_ret ?_ | refine g_in_ret ?_ | refine g_then_exit ?_ | refine g_in_exit rfl ?_ | refine g_in_exit_ne (by decide) ?_ | refine g_seq ?_ | refine g_region ?_ | refine g_block ?_ | refine g_ret ?_ | refine g_return_n ?_ | refine g_exit ?_ | refine g_skip ?_)
  refine g_hideR fun Q_ hQ_ => ?_
  refine o_boxc #[.func (.yield l) #[] #[]] rfl rfl fun q => ?_
  refine g_end (G.imp (hQ_ .normal _) ?_)
  clear hQ_ Q_
  try refine g_then ?_
  refine openMm m room ps fun a c0 mp zs hI => ?_
  have hzl := hI.small
  have hz := hz0 zs hI
  rw [← hz] at hy ⊢
  have hO : Ent (sl ([mC m room a ps.length c0 mp, psl encP 16 a ps, MapASP mp zs, pslots zs ps] ++ M)) (sl (J [])) := MemP_of m room ps a c0 mp zs hI
  refine G.dup (pslots zs ps) ?_
  repeat (first | refine g_endt ?_ | refine g_end ?_ | refine g_then ?_ | refine g_in_normal ?_ | refine g_then_ret ?_ | refine g_in_ret ?_ | refine g_then_exit ?_ | refine g_in_exit rfl ?_ | refine g_in_exit_ne (by decide) ?_ | refine g_seq ?_ | refine g_region ?_ | refine g_block ?_ | refine g_ret ?_ | refine g_return_n ?_ | refine g_exit ?_ | refine g_skip ?_)
  refine g_hideR fun Q_ hQ_ => ?_
  refine o_load1 (v := .pointer (some ⟨m, 0, none⟩)) rfl rfl ?_
  refine o_nil rfl ?_
  first | refine o_field rfl ?_ | refine o_fieldR rfl (by omega) ?_
  refine o_load1 (v := .pointer (some ⟨mp, 0, none⟩)) rfl rfl ?_
  refine o_call (AllMSP_spec mp) rfl rfl ?_
  rintro _ _ ⟨b2, rfl, rfl⟩
  refine g_end (G.imp (hQ_ .normal _) ?_)
  clear hQ_ Q_
  try refine g_then ?_
  repeat (first | refine g_endt ?_ | refine g_end ?_ | refine g_then ?_ | refine g_in_normal ?_ | refine g_then_ret ?_ | refine g_in_ret ?_ | refine g_then_exit ?_ | refine g_in_exit rfl ?_ | refine g_in_exit_ne (by decide) ?_ | refine g_seq ?_ | refine g_region ?_ | refine g_block ?_ | refine g_ret ?_ | refine g_return_n ?_ | refine g_exit ?_ | refine g_skip ?_)
  refine g_range (ps := [11, 12]) (lb := [.pointer (some ⟨b2, 0, none⟩)]) (enc := PgSP.enc2) (xs := zs) rfl
    (fun pre => cYe q l :: pslots zs ps :: pMp b2 mp :: Jin ([mC m room a ps.length c0 mp, psl encP 16 a ps, MapASP mp zs, pslots zs ps] ++ M) J (allE ps pre))
    (fun c _ => [pu (c = .ret), ex fun u : List ElemD => sl (pu (u <+: allE ps zs) :: Jx u)])
    (fun K => AllM1SP_iter mp b2 zs (by omega) (K :: cYe q l :: pslots zs ps :: pMp b2 mp :: ([mC m room a ps.length c0 mp, psl encP 16 a ps, MapASP mp zs, pslots zs ps] ++ M)))
    (fun _ => rfl) (tk := (inferInstance : Take _ (cYe q l :: pslots zs ps :: pMp b2 mp :: ([mC m room a ps.length c0 mp, psl encP 16 a ps, MapASP mp zs, pslots zs ps] ++ M)) _)) ?_ ?_ ?_
  · intro w0 F l' r pre x hpx
    have hxm : x ∈ zs := hpx.subset (by simp)
    have hxl := hI.len x hxm
    have hsl : (slotL ps x.k).length ≤ ps.length := List.length_filter_le _ _
    have hsn := allE_snoc ps pre x
    have hpr : ∀ {u : List ElemD}, u <+: esl (slotL ps x.k) → allE ps pre ++ u <+: allE ps zs := fun hu => allE_pre hpx hu
    rw [hsn]
    refine G.allGet (a := fun p : PgSP => p.v.a) (l := fun p => slotL ps p.k) (enc := encP) (sz := 16) (zs := zs) hxm ?_
    generalize hw : slotL ps x.k = ws at hxl hsl hpr ⊢
    obtain ⟨es, hes⟩ : ∃ es, esl ws = es := ⟨_, rfl⟩
    rw [hes] at hpr ⊢
    have hel : es.length < 1000000000 := by
      rw [← hes]; unfold esl
      have := List.length_filter_le (fun y => !hasC ElemD.cmp (outE ws) y) (inE ws)
      have h2 := sel_len inQ ws
      unfold inE at this ⊢; omega
    generalize allE ps pre = E at hpr ⊢
    repeat (first | refine g_endt ?_ | refine g_end ?_ | refine g_then ?_ | refine g_in_normal ?_ | refine g_then_ret ?_ | refine g_in_ret ?_ | refine g_then_exit ?_ | refine g_in_exit rfl ?_ | refine g_in_exit_ne (by decide) ?_ | refine g_seq ?_ | refine g_region ?_ | refine g_block ?_ | refine g_ret ?_ | refine g_return_n ?_ | refine g_exit ?_ | refine g_skip ?_)
    refine g_hideR fun Q_ hQ_ => ?_
    refine o_assign ?_
    refine g_end (G.imp (hQ_ .normal _) ?_)
    clear hQ_ Q_
    try refine g_then ?_
    repeat (first | refine g_endt ?_ | refine g_end ?_ | refine g_then ?_ | refine g_in_normal ?_ | refine g_then_ret ?_ | refine g_in_ret ?_ | refine g_then_exit ?_ | refine g_in_exit rfl ?_ | refine g_in_exit_ne (by decide) ?_ | refine g_seq ?_ | refine g_region ?_ | refine g_block ?_ | refine g_ret ?_ | refine g_return_n ?_ | refine g_exit ?_ | refine g_skip ?_)
    refine g_begin ?_
    repeat (first | refine g_endt ?_ | refine g_end ?_ | refine g_then ?_ | refine g_in_normal ?_ | refine g_then_ret ?_ | refine g_in_ret ?_ | refine g_then_exit ?_ | refine g_in_exit rfl ?_ | refine g_in_exit_ne (by decide) ?_ | refine g_seq ?_ | refine g_region ?_ | refine g_block ?_ | refine g_ret ?_ | refine g_return_n ?_ | refine g_exit ?_ | refine g_skip ?_)
    refine g_hideR fun Q_ hQ_ => ?_
    refine o_move ?_
    refine o_callp (elems_spec x.v.a x.v.len x.v.cap ws hxl.symm (by omega) hes) rfl rfl ?_
    rintro _ _ ⟨r2, rfl, rfl⟩
    refine o_call (AllES_spec r2) rfl rfl ?_
    rintro _ _ ⟨b3, rfl, rfl⟩
    refine g_end (G.imp (hQ_ .normal _) ?_)
    clear hQ_ Q_
    try refine g_then ?_
    repeat (first | refine g_endt ?_ | refine g_end ?_ | refine g_then ?_ | refine g_in_normal ?_ | refine g_then_ret ?_ | refine g_in_ret ?_ | refine g_then_exit ?_ | refine g_in_exit rfl ?_ | refine g_in_exit_ne (by decide) ?_ | refine g_seq ?_ | refine g_region ?_ | refine g_block ?_ | refine g_ret ?_ | refine g_return_n ?_ | refine g_exit ?_ | refine g_skip ?_)
    refine g_range_in (ps := [16]) (lb := [.pointer (some ⟨b3, 0, none⟩)]) (enc := ElemD.enc') (xs := es) rfl
      (fun u => SetAES r2 es :: pEs b3 r2 :: cYe q l :: pslots zs ps :: pMp b2 mp :: Jin ([mC m room a ps.length c0 mp, psl encP 16 a ps, MapASP mp zs, pslots zs ps] ++ M) J (E ++ u))
      (fun c u => pu (c = .ret) :: Jx (E ++ u))
      (fun K => All1ES_iter r2 b3 es hel (K :: SetAES r2 es :: pEs b3 r2 :: cYe q l :: pslots zs ps :: pMp b2 mp :: Jin ([mC m room a ps.length c0 mp, psl encP 16 a ps, MapASP mp zs, pslots zs ps] ++ M) J (E ++ [])))
      (fun _ => rfl) (tk := by rw [List.append_nil]; infer_instance) ?_ ?_ ?_
    · intro w1 F1 l1 r1 u e hu
      refine G.ent (L' := SetAES r2 es :: pEs b3 r2 :: cYe q l :: pslots zs ps :: pMp b2 mp :: J (E ++ u)) ((Ent.refl _).star ((Ent.refl _).star ((Ent.refl _).star ((Ent.refl _).star ((Ent.refl _).star (Jin_ent hO (E ++ u))))))) ?_
      repeat (first | refine g_endt ?_ | refine g_end ?_ | refine g_then ?_ | refine g_in_normal ?_ | refine g_then_ret ?_ | refine g_in_ret ?_ | refine g_then_exit ?_ | refine g_in_exit rfl ?_ | refine g_in_exit_ne (by decide) ?_ | refine g_seq ?_ | refine g_region ?_ | refine g_block ?_ | refine g_ret ?_ | refine g_return_n ?_ | refine g_exit ?_ | refine g_skip ?_)
      refine g_hideR fun Q_ hQ_ => ?_
      refine o_alloc fun c5 => ?_
      refine o_store (v := e.val) rfl rfl rfl rfl rfl ?_
      refine g_end (G.imp (hQ_ .normal _) ?_)
      clear hQ_ Q_
      try refine g_then ?_
      refine G.norm c5 e.val.cells rfl ?_
      repeat (first | refine g_endt ?_ | refine g_end ?_ | refine g_then ?_ | refine g_in_normal ?_ | refine g_then_ret ?_ | refine g_in_ret ?_ | refine g_then_exit ?_ | refine g_in_exit rfl ?_ | refine g_in_exit_ne (by decide) ?_ | refine g_seq ?_ | refine g_region ?_ | refine g_block ?_ | refine g_ret ?_ | refine g_return_n ?_ | refine g_exit ?_ | refine g_skip ?_)
      refine g_begin ?_
      repeat (first | refine g_endt ?_ | refine g_end ?_ | refine g_then ?_ | refine g_in_normal ?_ | refine g_then_ret ?_ | refine g_in_ret ?_ | refine g_then_exit ?_ | refine g_in_exit rfl ?_ | refine g_in_exit_ne (by decide) ?_ | refine g_seq ?_ | refine g_region ?_ | refine g_block ?_ | refine g_ret ?_ | refine g_return_n ?_ | refine g_exit ?_ | refine g_skip ?_)
      refine o_load1 (v := .func (.yield l) #[] #[]) rfl rfl ?_
      refine o_loadN (v := e.val) rfl rfl rfl ?_
      refine o_yield (hy (E ++ u) e (by rw [List.append_assoc]; exact hpr hu)) rfl rfl ?_ ?_
      · refine o_not rfl ?_
        refine g_endt ?_
        first | refine g_seq (g_cond_f rfl (rfl) ?_) | refine g_cond_f rfl (rfl) ?_
        repeat (first | refine g_endt ?_ | refine g_end ?_ | refine g_then ?_ | refine g_in_normal ?_ | refine g_then_ret ?_ | refine g_in_ret ?_ | refine g_then_exit ?_ | refine g_in_exit rfl ?_ | refine g_in_exit_ne (by decide) ?_ | refine g_seq ?_ | refine g_region ?_ | refine g_block ?_ | refine g_ret ?_ | refine g_return_n ?_ | refine g_exit ?_ | refine g_skip ?_)
        exact g_next (tk := by rw [← List.append_assoc]; show Take _ (_ :: _ :: _ :: _ :: _ :: Jin _ J (E ++ u ++ [e])) _; rw [Jin_snoc]; infer_instance)
      · refine o_not rfl ?_
        refine g_endt ?_
        first | refine g_seq (g_cond_t rfl (rfl) ?_) | refine g_cond_t rfl (rfl) ?_
        repeat (first | refine g_endt ?_ | refine g_end ?_ | refine g_then ?_ | refine g_in_normal ?_ | refine g_then_ret ?_ | refine g_in_ret ?_ | refine g_then_exit ?_ | refine g_in_exit rfl ?_ | refine g_in_exit_ne (by decide) ?_ | refine g_seq ?_ | refine g_region ?_ | refine g_block ?_ | refine g_ret ?_ | refine g_return_n ?_ | refine g_exit ?_ | refine g_skip ?_)
        refine G.pu_in (q := Code.ret = Code.ret) rfl ?_
        exact g_leave_ret (tk := by rw [← List.append_assoc]; infer_instance)
    · skip
      repeat (first | refine g_endt ?_ | refine g_end ?_ | refine g_then ?_ | refine g_in_normal ?_ | refine g_then_ret ?_ | refine g_in_ret ?_ | refine g_then_exit ?_ | refine g_in_exit rfl ?_ | refine g_in_exit_ne (by decide) ?_ | refine g_seq ?_ | refine g_region ?_ | refine g_block ?_ | refine g_ret ?_ | refine g_return_n ?_ | refine g_exit ?_ | refine g_skip ?_)
      exact g_next
    · intro c u hu
      refine G.pu fun h => ?_
      subst h
      repeat (first | refine g_endt ?_ | refine g_end ?_ | refine g_then ?_ | refine g_in_normal ?_ | refine g_then_ret ?_ | refine g_in_ret ?_ | refine g_then_exit ?_ | refine g_in_exit rfl ?_ | refine g_in_exit_ne (by decide) ?_ | refine g_seq ?_ | refine g_region ?_ | refine g_block ?_ | refine g_ret ?_ | refine g_return_n ?_ | refine g_exit ?_ | refine g_skip ?_)
      refine G.ent (L := Jx (E ++ u)) (L' := [ex fun u : List ElemD => sl (pu (u <+: allE ps zs) :: Jx u)]) ?_ ?_
      · exact Ent.trans (show Ent (sl (Jx (E ++ u))) (sl (pu (E ++ u <+: allE ps zs) :: Jx (E ++ u))) from fun B h x => ⟨hnil, h, (Dj.nil _).symm, .nil _, .refl _, hpr hu, x⟩) (exIn (fun u => pu (u <+: allE ps zs) :: Jx u) (E ++ u))
      refine G.pu_in (q := Code.ret = Code.ret) rfl ?_
      exact g_leave_ret
  · intro D
    refine G.ent (L' := cYe q l :: pslots zs ps :: pMp b2 mp :: J (allE ps zs)) ((Ent.refl _).star ((Ent.refl _).star ((Ent.refl _).star (Jin_ent hO (allE ps zs))))) ?_
    repeat (first | refine g_endt ?_ | refine g_end ?_ | refine g_then ?_ | refine g_in_normal ?_ | refine g_then_ret ?_ | refine g_in_ret ?_ | refine g_then_exit ?_ | refine g_in_exit rfl ?_ | refine g_in_exit_ne (by decide) ?_ | refine g_seq ?_ | refine g_region ?_ | refine g_block ?_ | refine g_ret ?_ | refine g_return_n ?_ | refine g_exit ?_ | refine g_skip ?_)
    exact ret0 (K := J (allE ps zs)) rfl (.inl rfl)
  · intro D c pre hpx
    refine G.pu fun h => ?_
    subst h
    refine G.ex fun u => ?_
    refine G.open_sl ?_
    refine G.pu fun hu => ?_
    refine G.ent (L := Jx u ++ []) (L' := Jx u) (by rw [List.append_nil]; exact Ent.refl _) ?_
    repeat (first | refine g_endt ?_ | refine g_end ?_ | refine g_then ?_ | refine g_in_normal ?_ | refine g_then_ret ?_ | refine g_in_ret ?_ | refine g_then_exit ?_ | refine g_in_exit rfl ?_ | refine g_in_exit_ne (by decide) ?_ | refine g_seq ?_ | refine g_region ?_ | refine g_block ?_ | refine g_ret ?_ | refine g_return_n ?_ | refine g_exit ?_ | refine g_skip ?_)
    exact ret0 (K := Jx u) rfl (.inr ⟨u, hu, rfl⟩)
theorem Elems17_spec (m : Nat) : Ctr Tryz.prog 18 [.pointer (some ⟨m, 0, none⟩)] []
    (fun v M => ∃ b, v = .func (.func 41) #[] #[.pointer (some ⟨b, 0, none⟩)] ∧ M = [pM b m]) := by
  refine spec_of Tryz.func18 rfl Tryz.ntmps18 rfl fun w0 F => ?_
  -- hide
  -- (*ponder/pref.Memory).Elems
  repeat (first | refine g_endt ?_ | refine g_end ?_ | refine g_then ?_ | refine g_in_normal ?_ | refine g_then_ret ?_ | refine g_in_ret ?_ | refine g_then_exit ?_ | refine g_in_exit rfl ?_ | refine g_in_exit_ne (by decide) ?_ | refine g_seq ?_ | refine g_region ?_ | refine g_block ?_ | refine g_ret ?_ | refine g_return_n ?_ | refine g_exit ?_ | refine g_skip ?_)
  refine o_boxc #[.pointer (some ⟨m, 0, none⟩)] rfl rfl fun b => G.freeze <| ?_
  refine o_assign ?_
  first | refine g_endt ?_ | refine g_end ?_
  repeat (first | refine g_endt ?_ | refine g_end ?_ | refine g_then ?_ | refine g_in_normal ?_ | refine g_then_ret ?_ | refine g_in_ret ?_ | refine g_then_exit ?_ | refine g_in_exit rfl ?_ | refine g_in_exit_ne (by decide) ?_ | refine g_seq ?_ | refine g_region ?_ | refine g_block ?_ | refine g_ret ?_ | refine g_return_n ?_ | refine g_exit ?_ | refine g_skip ?_)
  refine o_func ?_
  refine o_assign ?_
  first | refine g_endt ?_ | refine g_end ?_
  repeat (first | refine g_endt ?_ | refine g_end ?_ | refine g_then ?_ | refine g_in_normal ?_ | refine g_then_ret ?_ | refine g_in_ret ?_ | refine g_then_exit ?_ | refine g_in_exit rfl ?_ | refine g_in_exit_ne (by decide) ?_ | refine g_seq ?_ | refine g_region ?_ | refine g_block ?_ | refine g_ret ?_ | refine g_return_n ?_ | refine g_exit ?_ | refine g_skip ?_)
  exact ret1 rfl (resT rfl) ⟨b, rfl, rfl⟩
end Go.Proofs.YtonaccfoelgpnaaGreat
/- Where an element comes from: the walk. -/
namespace Go.Proofs.YtonaccfoelgpnaaGreat
open Go Go.Sl
attribute [local irreducible] Exit.then Exit.inBlock Code.wpIn roundPost bodyPostM runL Ret Meets MeetsD Begin

def suitP (v : SymD) (lv : Int) (p : PrefD) : Bool := p.value.beq v && (decide (p.level ≤ lv) && (decide (p.kind = 1) || (decide (p.kind = 3) && p.slot)))
def leastP (n : Int) (p : PrefD) : Int := if n = 0 ∨ p.by_ < n then p.by_ else n
def causeF (v : SymD) (lv : Int) (n : Int) (p : PrefD) : Int := if suitP v lv p = true then leastP n p else n
def causeD (v : SymD) (lv : Int) (ws : List PrefD) : Int := ws.foldl (causeF v lv) 0
theorem causeD_snoc (v : SymD) (lv : Int) (ws : List PrefD) (p : PrefD) : causeD v lv (ws ++ [p]) = causeF v lv (causeD v lv ws) p := by unfold causeD; rw [List.foldl_append]; rfl
abbrev cIi (c : Nat) (k : Int) : SProp := cellsB c #[.int .i64 k] 3
abbrev cEe (c : Nat) (e : ElemD) : SProp := cellsB c e.val.cells 58
abbrev causeK (m : Nat) (room : Int) (ps : List PrefD) (b b1 b2 b3 c4 c5 : Nat) (e : ElemD) (lv : Int) : List SProp := pFn b 76 [.pointer (some ⟨b1, 0, none⟩), .pointer (some ⟨b2, 0, none⟩), .pointer (some ⟨b3, 0, none⟩)] :: cEe c4 e :: cIi c5 lv :: slK m room ps b1 b2 b3 e.id e.attr
set_option maxHeartbeats 4000000 in
theorem Cause17_spec (m : Nat) (room : Int) (ps : List PrefD) (hp : ps.length ≤ 100000) (e : ElemD) (lv : Int) {r : Int} (hr : causeD e.value lv (slotL ps ⟨e.id, e.attr⟩) = r) : Ctr Tryz.prog 20 [.pointer (some ⟨m, 0, none⟩), e.val, .int .i64 lv] [MemP m room ps]
    (fun v M => v = .int .i64 r ∧ M = [MemP m room ps]) := by
  refine spec_of Tryz.func20 rfl Tryz.ntmps20 rfl fun w0 F => ?_
  -- hide
  -- (*ponder/pref.Memory).Cause
  subst hr
  obtain ⟨xs, hx⟩ : ∃ xs, slotL ps ⟨e.id, e.attr⟩ = xs := ⟨_, rfl⟩
  repeat (first | refine g_endt ?_ | refine g_end ?_ | refine g_then ?_ | refine g_in_normal ?_ | refine g_then_ret ?_ | refine g_in_ret ?_ | refine g_then_exit ?_ | refine g_in_exit rfl ?_ | refine g_in_exit_ne (by decide) ?_ | refine g_seq ?_ | refine g_region ?_ | refine g_block ?_ | refine g_ret ?_ | refine g_return_n ?_ | refine g_exit ?_ | refine g_skip ?_)
  refine g_hideR fun Q_ hQ_ => ?_
  refine o_boxc e.val.cells rfl rfl fun c4 => ?_
  refine o_boxc #[.int .i64 lv] rfl rfl fun c5 => ?_
  refine o_assign ?_
  refine g_end (G.imp (hQ_ .normal _) ?_)
  clear hQ_ Q_
  try refine g_then ?_
  repeat (first | refine g_endt ?_ | refine g_end ?_ | refine g_then ?_ | refine g_in_normal ?_ | refine g_then_ret ?_ | refine g_in_ret ?_ | refine g_then_exit ?_ | refine g_in_exit rfl ?_ | refine g_in_exit_ne (by decide) ?_ | refine g_seq ?_ | refine g_region ?_ | refine g_block ?_ | refine g_ret ?_ | refine g_return_n ?_ | refine g_exit ?_ | refine g_skip ?_)
  refine g_hideR fun Q_ hQ_ => ?_
  refine o_alloc fun c7 => ?_
  refine o_store (v := .int .i64 0) rfl rfl rfl rfl rfl ?_
  refine g_end (G.imp (hQ_ .normal _) ?_)
  clear hQ_ Q_
  try refine g_then ?_
  refine G.norm c7 #[.int .i64 0] rfl ?_
  repeat (first | refine g_endt ?_ | refine g_end ?_ | refine g_then ?_ | refine g_in_normal ?_ | refine g_then_ret ?_ | refine g_in_ret ?_ | refine g_then_exit ?_ | refine g_in_exit rfl ?_ | refine g_in_exit_ne (by decide) ?_ | refine g_seq ?_ | refine g_region ?_ | refine g_block ?_ | refine g_ret ?_ | refine g_return_n ?_ | refine g_exit ?_ | refine g_skip ?_)
  refine g_hideR fun Q_ hQ_ => ?_
  refine o_move ?_
  first | refine o_field rfl ?_ | refine o_fieldR rfl (by omega) ?_
  refine o_loadN (v := e.id.val) rfl rfl rfl ?_
  first | refine o_field rfl ?_ | refine o_fieldR rfl (by omega) ?_
  refine o_loadN (v := e.attr.val) rfl rfl rfl ?_
  refine o_call (Slot17_spec m e.id e.attr) rfl rfl ?_
  rintro _ _ ⟨b, b1, b2, b3, rfl, rfl⟩
  refine g_end (G.imp (hQ_ .normal _) ?_)
  clear hQ_ Q_
  try refine g_then ?_
  rw [hx]
  repeat (first | refine g_endt ?_ | refine g_end ?_ | refine g_then ?_ | refine g_in_normal ?_ | refine g_then_ret ?_ | refine g_in_ret ?_ | refine g_then_exit ?_ | refine g_in_exit rfl ?_ | refine g_in_exit_ne (by decide) ?_ | refine g_seq ?_ | refine g_region ?_ | refine g_block ?_ | refine g_ret ?_ | refine g_return_n ?_ | refine g_exit ?_ | refine g_skip ?_)
  refine g_range (ps := [15]) (lb := [.pointer (some ⟨b, 0, none⟩)]) (enc := encVP) (xs := xs) rfl
    (fun pre => cIi c7 (causeD e.value lv pre) :: causeK m room ps b b1 b2 b3 c4 c5 e lv) (fun _ _ => [pu False])
    (fun K => slot_iter m room ps hp b b1 b2 b3 e.id e.attr hx (K :: cIi c7 0 :: causeK m room ps b b1 b2 b3 c4 c5 e lv)) (fun _ => rfl) (tk := (inferInstance : Take _ (cIi c7 0 :: causeK m room ps b b1 b2 b3 c4 c5 e lv) _)) ?_ ?_ ?_
  · intro w0 F l rr pre p hpx
    have hsn := causeD_snoc e.value lv pre p
    rw [hsn]
    generalize causeD e.value lv pre = n0 at ⊢
    repeat (first | refine g_endt ?_ | refine g_end ?_ | refine g_then ?_ | refine g_in_normal ?_ | refine g_then_ret ?_ | refine g_in_ret ?_ | refine g_then_exit ?_ | refine g_in_exit rfl ?_ | refine g_in_exit_ne (by decide) ?_ | refine g_seq ?_ | refine g_region ?_ | refine g_block ?_ | refine g_ret ?_ | refine g_return_n ?_ | refine g_exit ?_ | refine g_skip ?_)
    refine g_hideR fun Q_ hQ_ => ?_
    refine o_alloc fun c8 => ?_
    refine o_store (v := p.val) rfl rfl rfl rfl rfl ?_
    refine g_end (G.imp (hQ_ .normal _) ?_)
    clear hQ_ Q_
    try refine g_then ?_
    refine G.norm c8 p.val.cells rfl ?_
    repeat (first | refine g_endt ?_ | refine g_end ?_ | refine g_then ?_ | refine g_in_normal ?_ | refine g_then_ret ?_ | refine g_in_ret ?_ | refine g_then_exit ?_ | refine g_in_exit rfl ?_ | refine g_in_exit_ne (by decide) ?_ | refine g_seq ?_ | refine g_region ?_ | refine g_block ?_ | refine g_ret ?_ | refine g_return_n ?_ | refine g_exit ?_ | refine g_skip ?_)
    refine g_begin ?_
    repeat (first | refine g_endt ?_ | refine g_end ?_ | refine g_then ?_ | refine g_in_normal ?_ | refine g_then_ret ?_ | refine g_in_ret ?_ | refine g_then_exit ?_ | refine g_in_exit rfl ?_ | refine g_in_exit_ne (by decide) ?_ | refine g_seq ?_ | refine g_block ?_ | refine g_ret ?_ | refine g_return_n ?_ | refine g_exit ?_ | refine g_skip ?_)
    refine g_cutk (σ := Bool) (ds' := []) (S := fun t => [(4, .pointer (some ⟨c4, 0, none⟩)), (5, .pointer (some ⟨c5, 0, none⟩)), (7, .pointer (some ⟨c7, 0, none⟩)), (8, .pointer (some ⟨c8, 0, none⟩)), (41, .bool t)]) (H := fun _ => cPf c8 p :: cIi c7 n0 :: causeK m room ps b b1 b2 b3 c4 c5 e lv) (ok := fun t => t = !suitP e.value lv p) ?_ ?_
    · skip
      repeat (first | refine g_endt ?_ | refine g_end ?_ | refine g_then ?_ | refine g_in_normal ?_ | refine g_then_ret ?_ | refine g_in_ret ?_ | refine g_then_exit ?_ | refine g_in_exit rfl ?_ | refine g_in_exit_ne (by decide) ?_ | refine g_seq ?_ | refine g_region ?_ | refine g_block ?_ | refine g_ret ?_ | refine g_return_n ?_ | refine g_exit ?_ | refine g_skip ?_)
      first | refine o_field rfl ?_ | refine o_fieldR rfl (by omega) ?_
      refine o_loadN (v := p.value.val) rfl rfl rfl ?_
      first | refine o_field rfl ?_ | refine o_fieldR rfl (by omega) ?_
      refine o_loadN (v := e.value.val) rfl rfl rfl ?_
      refine o_neqty rfl rfl (eq_sym p.value e.value) ?_
      refine o_moveB rfl (fun h5 => ?_) (fun h5 => ?_)
      · refine o_unwanted rfl rfl rfl rfl rfl ?_
        refine o_unwanted rfl rfl rfl rfl rfl ?_
        refine o_unwanted rfl rfl rfl rfl rfl ?_
        refine o_unwanted rfl rfl rfl rfl rfl ?_
        refine o_pick_t rfl rfl ?_
        refine o_move ?_
        refine o_unwanted rfl rfl rfl rfl rfl ?_
        refine o_unwanted rfl rfl rfl rfl rfl ?_
        refine o_unwanted rfl rfl rfl rfl rfl ?_
        refine o_unwanted rfl rfl rfl rfl rfl ?_
        refine o_undef rfl rfl rfl ?_
        refine o_undef rfl rfl rfl ?_
        refine o_undef rfl rfl rfl ?_
        refine o_undef rfl rfl rfl ?_
        refine o_undef rfl rfl rfl ?_
        refine o_undef rfl rfl rfl ?_
        refine o_undef rfl rfl rfl ?_
        refine o_undef rfl rfl rfl ?_
        refine o_unwanted rfl rfl rfl rfl rfl ?_
        refine o_pick_t rfl rfl ?_
        first | refine g_endt ?_ | refine g_end ?_
        refine g_meets _ ?_ (Sat.mem ⟨rfl, rfl, rfl, rfl, rfl, trivial⟩)
        (unfold suitP; rw [Bool.eq_iff_iff]; simp_all <;> omega)
      · first | refine o_want rfl rfl rfl rfl rfl <| o_field rfl ?_ | refine o_want rfl rfl rfl rfl rfl <| o_fieldR rfl (by omega) ?_
        refine o_want rfl rfl rfl rfl rfl <| o_load1 (v := .int .i64 p.level) rfl rfl ?_
        refine o_want rfl rfl rfl rfl rfl <| o_load1 (v := .int .i64 lv) rfl rfl ?_
        refine o_want rfl rfl rfl rfl rfl <| o_gtr rfl rfl ?_
        refine o_pick_f rfl rfl ?_
        refine o_moveB rfl (fun h11 => ?_) (fun h11 => ?_)
        · refine o_unwanted rfl rfl rfl rfl rfl ?_
          refine o_unwanted rfl rfl rfl rfl rfl ?_
          refine o_unwanted rfl rfl rfl rfl rfl ?_
          refine o_unwanted rfl rfl rfl rfl rfl ?_
          refine o_undef rfl rfl rfl ?_
          refine o_undef rfl rfl rfl ?_
          refine o_undef rfl rfl rfl ?_
          refine o_undef rfl rfl rfl ?_
          refine o_undef rfl rfl rfl ?_
          refine o_undef rfl rfl rfl ?_
          refine o_undef rfl rfl rfl ?_
          refine o_undef rfl rfl rfl ?_
          refine o_unwanted rfl rfl rfl rfl rfl ?_
          refine o_pick_t rfl rfl ?_
          first | refine g_endt ?_ | refine g_end ?_
          refine g_meets _ ?_ (Sat.mem ⟨rfl, rfl, rfl, rfl, rfl, trivial⟩)
          (unfold suitP; rw [Bool.eq_iff_iff]; simp_all <;> omega)
        · first | refine o_want rfl rfl rfl rfl rfl <| o_field rfl ?_ | refine o_want rfl rfl rfl rfl rfl <| o_fieldR rfl (by omega) ?_
          refine o_want rfl rfl rfl rfl rfl <| o_load1 (v := .int .i64 p.kind) rfl rfl ?_
          refine o_want rfl rfl rfl rfl rfl <| o_neq rfl rfl ?_
          refine o_want rfl rfl rfl rfl rfl <| o_moveB rfl (fun h15 => ?_) (fun h15 => ?_)
          · first | refine o_want rfl rfl rfl rfl rfl <| o_field rfl ?_ | refine o_want rfl rfl rfl rfl rfl <| o_fieldR rfl (by omega) ?_
            refine o_want rfl rfl rfl rfl rfl <| o_load1 (v := .int .i64 p.kind) rfl rfl ?_
            refine o_want rfl rfl rfl rfl rfl <| o_neq rfl rfl ?_
            refine o_want rfl rfl rfl rfl rfl <| o_moveB rfl (fun h19 => ?_) (fun h19 => ?_)
            · refine o_unwanted rfl rfl rfl rfl rfl ?_
              refine o_unwanted rfl rfl rfl rfl rfl ?_
              refine o_unwanted rfl rfl rfl rfl rfl ?_
              refine o_want rfl rfl rfl rfl rfl <| o_pick_t rfl rfl ?_
              refine o_want rfl rfl rfl rfl rfl <| o_pick_t rfl rfl ?_
              refine o_pick_f rfl rfl ?_
              first | refine g_endt ?_ | refine g_end ?_
              refine g_meets _ ?_ (Sat.mem ⟨rfl, rfl, rfl, rfl, rfl, trivial⟩)
              (unfold suitP; rw [Bool.eq_iff_iff]; simp_all <;> omega)
            · refine o_want rfl rfl rfl rfl rfl <| o_loadN (v := p.val) rfl rfl rfl ?_
              refine o_want rfl rfl rfl rfl rfl <| o_call (Slot_spec p) rfl rfl ?_
              rintro _ _ ⟨rfl, rfl⟩
              refine o_want rfl rfl rfl rfl rfl <| o_not rfl ?_
              refine o_want rfl rfl rfl rfl rfl <| o_pick_f rfl rfl ?_
              refine o_want rfl rfl rfl rfl rfl <| o_pick_t rfl rfl ?_
              refine o_pick_f rfl rfl ?_
              first | refine g_endt ?_ | refine g_end ?_
              refine g_meets _ ?_ (Sat.mem ⟨rfl, rfl, rfl, rfl, rfl, trivial⟩)
              (unfold suitP; rw [Bool.eq_iff_iff]; simp_all <;> omega)
          · refine o_unwanted rfl rfl rfl rfl rfl ?_
            refine o_unwanted rfl rfl rfl rfl rfl ?_
            refine o_unwanted rfl rfl rfl rfl rfl ?_
            refine o_unwanted rfl rfl rfl rfl rfl ?_
            refine o_undef rfl rfl rfl ?_
            refine o_undef rfl rfl rfl ?_
            refine o_undef rfl rfl rfl ?_
            refine o_unwanted rfl rfl rfl rfl rfl ?_
            refine o_want rfl rfl rfl rfl rfl <| o_pick_f rfl rfl ?_
            refine o_pick_f rfl rfl ?_
            first | refine g_endt ?_ | refine g_end ?_
            refine g_meets _ ?_ (Sat.mem ⟨rfl, rfl, rfl, rfl, rfl, trivial⟩)
            (unfold suitP; rw [Bool.eq_iff_iff]; simp_all <;> omega)
    rintro t ρ2 rfl
    cases hs : suitP e.value lv p with
    | false =>
      rw [show causeF e.value lv n0 p = n0 by unfold causeF; rw [if_neg (by rw [hs]; decide)]]
      first | refine g_seq (g_cond_t rfl (by first | rfl | (simp; done) | (simp; omega) | (simp; assumption)) ?_) | refine g_cond_t rfl (by first | rfl | (simp; done) | (simp; omega) | (simp; assumption)) ?_
      repeat (first | refine g_endt ?_ | refine g_end ?_ | refine g_then ?_ | refine g_in_normal ?_ | refine g_then_ret ?_ | refine g_in_ret ?_ | refine g_then_exit ?_ | refine g_in_exit rfl ?_ | refine g_in_exit_ne (by decide) ?_ | refine g_seq ?_ | refine g_region ?_ | refine g_block ?_ | refine g_ret ?_ | refine g_return_n ?_ | refine g_exit ?_ | refine g_skip ?_)
      exact g_next
    | true =>
      rw [show causeF e.value lv n0 p = leastP n0 p by unfold causeF; rw [if_pos hs]]
      first | refine g_seq (g_cond_f rfl (by first | rfl | (simp; done) | (simp; omega) | (simp; assumption)) ?_) | refine g_cond_f rfl (by first | rfl | (simp; done) | (simp; omega) | (simp; assumption)) ?_
      by_cases h0 : n0 = 0
      · rw [show leastP n0 p = p.by_ by unfold leastP; rw [if_pos (.inl h0)]]
        repeat (first | refine g_endt ?_ | refine g_end ?_ | refine g_then ?_ | refine g_in_normal ?_ | refine g_then_ret ?_ | refine g_in_ret ?_ | refine g_then_exit ?_ | refine g_in_exit rfl ?_ | refine g_in_exit_ne (by decide) ?_ | refine g_seq ?_ | refine g_region ?_ | refine g_block ?_ | refine g_ret ?_ | refine g_return_n ?_ | refine g_exit ?_ | refine g_skip ?_)
        repeat (first | refine g_endt ?_ | refine g_end ?_ | refine g_then ?_ | refine g_in_normal ?_ | refine g_then_ret ?_ | refine g_in_ret ?_ | refine g_then_exit ?_ | refine g_in_exit rfl ?_ | refine g_in_exit_ne (by decide) ?_ | refine g_seq ?_ | refine g_region ?_ | refine g_block ?_ | refine g_ret ?_ | refine g_return_n ?_ | refine g_exit ?_ | refine g_skip ?_)
        refine g_hideR fun Q_ hQ_ => ?_
        refine o_load1 (v := .int .i64 n0) rfl rfl ?_
        refine o_eqlT (t := true) rfl rfl (by simpa using h0) ?_
        refine o_move ?_
        first | (refine o_want rfl rfl rfl rfl rfl ?_; (first | refine o_field rfl ?_ | refine o_fieldR rfl (by omega) ?_)) | refine o_unwanted rfl rfl rfl rfl rfl ?_ | refine o_undef rfl rfl rfl ?_
        first | refine o_unwanted rfl rfl rfl rfl rfl ?_ | refine o_undef rfl rfl rfl ?_
        first | refine o_unwanted rfl rfl rfl rfl rfl ?_ | refine o_undef rfl rfl rfl ?_
        first | (refine o_want rfl rfl rfl rfl rfl ?_; refine o_lss rfl rfl ?_) | refine o_unwanted rfl rfl rfl rfl rfl ?_ | refine o_undef rfl rfl rfl ?_
        first | refine o_pick_t rfl rfl ?_ | refine o_pick_f rfl rfl ?_
        refine g_end (G.imp (hQ_ .normal _) ?_)
        clear hQ_ Q_
        try refine g_then ?_
        first | refine g_seq (g_cond_t rfl (by first | rfl | (simp; done) | (simp; omega) | (simp; assumption)) ?_) | refine g_cond_t rfl (by first | rfl | (simp; done) | (simp; omega) | (simp; assumption)) ?_
        repeat (first | refine g_endt ?_ | refine g_end ?_ | refine g_then ?_ | refine g_in_normal ?_ | refine g_then_ret ?_ | refine g_in_ret ?_ | refine g_then_exit ?_ | refine g_in_exit rfl ?_ | refine g_in_exit_ne (by decide) ?_ | refine g_seq ?_ | refine g_region ?_ | refine g_block ?_ | refine g_ret ?_ | refine g_return_n ?_ | refine g_exit ?_ | refine g_skip ?_)
        refine g_hideR fun Q_ hQ_ => ?_
        first | refine o_field rfl ?_ | refine o_fieldR rfl (by omega) ?_
        refine o_load1 (v := .int .i64 p.by_) rfl rfl ?_
        refine o_store (v := .int .i64 p.by_) rfl rfl rfl rfl rfl ?_
        refine g_end (G.imp (hQ_ .normal _) ?_)
        clear hQ_ Q_
        try refine g_then ?_
        refine G.norm c7 #[.int .i64 p.by_] rfl ?_
        repeat (first | refine g_endt ?_ | refine g_end ?_ | refine g_then ?_ | refine g_in_normal ?_ | refine g_then_ret ?_ | refine g_in_ret ?_ | refine g_then_exit ?_ | refine g_in_exit rfl ?_ | refine g_in_exit_ne (by decide) ?_ | refine g_seq ?_ | refine g_region ?_ | refine g_block ?_ | refine g_ret ?_ | refine g_return_n ?_ | refine g_exit ?_ | refine g_skip ?_)
        exact g_next
      · by_cases hlt : p.by_ < n0
        · rw [show leastP n0 p = p.by_ by unfold leastP; rw [if_pos (.inr hlt)]]
          repeat (first | refine g_endt ?_ | refine g_end ?_ | refine g_then ?_ | refine g_in_normal ?_ | refine g_then_ret ?_ | refine g_in_ret ?_ | refine g_then_exit ?_ | refine g_in_exit rfl ?_ | refine g_in_exit_ne (by decide) ?_ | refine g_seq ?_ | refine g_region ?_ | refine g_block ?_ | refine g_ret ?_ | refine g_return_n ?_ | refine g_exit ?_ | refine g_skip ?_)
          repeat (first | refine g_endt ?_ | refine g_end ?_ | refine g_then ?_ | refine g_in_normal ?_ | refine g_then_ret ?_ | refine g_in_ret ?_ | refine g_then_exit ?_ | refine g_in_exit rfl ?_ | refine g_in_exit_ne (by decide) ?_ | refine g_seq ?_ | refine g_region ?_ | refine g_block ?_ | refine g_ret ?_ | refine g_return_n ?_ | refine g_exit ?_ | refine g_skip ?_)
          refine g_hideR fun Q_ hQ_ => ?_
          refine o_load1 (v := .int .i64 n0) rfl rfl ?_
          refine o_eqlT (t := false) rfl rfl (by simpa using h0) ?_
          refine o_move ?_
          first | (refine o_want rfl rfl rfl rfl rfl ?_; (first | refine o_field rfl ?_ | refine o_fieldR rfl (by omega) ?_)) | refine o_unwanted rfl rfl rfl rfl rfl ?_ | refine o_undef rfl rfl rfl ?_
          refine o_want rfl rfl rfl rfl rfl (o_load1 (v := .int .i64 p.by_) rfl rfl ?_)
          refine o_want rfl rfl rfl rfl rfl (o_load1 (v := .int .i64 n0) rfl rfl ?_)
          first | (refine o_want rfl rfl rfl rfl rfl ?_; refine o_lss rfl rfl ?_) | refine o_unwanted rfl rfl rfl rfl rfl ?_ | refine o_undef rfl rfl rfl ?_
          rw [show decide (p.by_ < n0) = true from decide_eq_true hlt]
          first | refine o_pick_t rfl rfl ?_ | refine o_pick_f rfl rfl ?_
          refine g_end (G.imp (hQ_ .normal _) ?_)
          clear hQ_ Q_
          try refine g_then ?_
          first | refine g_seq (g_cond_t rfl (by first | rfl | (simp; done) | (simp; omega) | (simp; assumption)) ?_) | refine g_cond_t rfl (by first | rfl | (simp; done) | (simp; omega) | (simp; assumption)) ?_
          repeat (first | refine g_endt ?_ | refine g_end ?_ | refine g_then ?_ | refine g_in_normal ?_ | refine g_then_ret ?_ | refine g_in_ret ?_ | refine g_then_exit ?_ | refine g_in_exit rfl ?_ | refine g_in_exit_ne (by decide) ?_ | refine g_seq ?_ | refine g_region ?_ | refine g_block ?_ | refine g_ret ?_ | refine g_return_n ?_ | refine g_exit ?_ | refine g_skip ?_)
          refine g_hideR fun Q_ hQ_ => ?_
          first | refine o_field rfl ?_ | refine o_fieldR rfl (by omega) ?_
          refine o_load1 (v := .int .i64 p.by_) rfl rfl ?_
          refine o_store (v := .int .i64 p.by_) rfl rfl rfl rfl rfl ?_
          refine g_end (G.imp (hQ_ .normal _) ?_)
          clear hQ_ Q_
          try refine g_then ?_
          refine G.norm c7 #[.int .i64 p.by_] rfl ?_
          repeat (first | refine g_endt ?_ | refine g_end ?_ | refine g_then ?_ | refine g_in_normal ?_ | refine g_then_ret ?_ | refine g_in_ret ?_ | refine g_then_exit ?_ | refine g_in_exit rfl ?_ | refine g_in_exit_ne (by decide) ?_ | refine g_seq ?_ | refine g_region ?_ | refine g_block ?_ | refine g_ret ?_ | refine g_return_n ?_ | refine g_exit ?_ | refine g_skip ?_)
          exact g_next
        · rw [show leastP n0 p = n0 by unfold leastP; rw [if_neg (by omega)]]
          repeat (first | refine g_endt ?_ | refine g_end ?_ | refine g_then ?_ | refine g_in_normal ?_ | refine g_then_ret ?_ | refine g_in_ret ?_ | refine g_then_exit ?_ | refine g_in_exit rfl ?_ | refine g_in_exit_ne (by decide) ?_ | refine g_seq ?_ | refine g_region ?_ | refine g_block ?_ | refine g_ret ?_ | refine g_return_n ?_ | refine g_exit ?_ | refine g_skip ?_)
          repeat (first | refine g_endt ?_ | refine g_end ?_ | refine g_then ?_ | refine g_in_normal ?_ | refine g_then_ret ?_ | refine g_in_ret ?_ | refine g_then_exit ?_ | refine g_in_exit rfl ?_ | refine g_in_exit_ne (by decide) ?_ | refine g_seq ?_ | refine g_region ?_ | refine g_block ?_ | refine g_ret ?_ | refine g_return_n ?_ | refine g_exit ?_ | refine g_skip ?_)
          refine g_hideR fun Q_ hQ_ => ?_
          refine o_load1 (v := .int .i64 n0) rfl rfl ?_
          refine o_eqlT (t := false) rfl rfl (by simpa using h0) ?_
          refine o_move ?_
          first | (refine o_want rfl rfl rfl rfl rfl ?_; (first | refine o_field rfl ?_ | refine o_fieldR rfl (by omega) ?_)) | refine o_unwanted rfl rfl rfl rfl rfl ?_ | refine o_undef rfl rfl rfl ?_
          refine o_want rfl rfl rfl rfl rfl (o_load1 (v := .int .i64 p.by_) rfl rfl ?_)
          refine o_want rfl rfl rfl rfl rfl (o_load1 (v := .int .i64 n0) rfl rfl ?_)
          first | (refine o_want rfl rfl rfl rfl rfl ?_; refine o_lss rfl rfl ?_) | refine o_unwanted rfl rfl rfl rfl rfl ?_ | refine o_undef rfl rfl rfl ?_
          rw [show decide (p.by_ < n0) = false from decide_eq_false hlt]
          first | refine o_pick_t rfl rfl ?_ | refine o_pick_f rfl rfl ?_
          refine g_end (G.imp (hQ_ .normal _) ?_)
          clear hQ_ Q_
          try refine g_then ?_
          first | refine g_seq (g_cond_f rfl (by first | rfl | (simp; done) | (simp; omega) | (simp; assumption)) ?_) | refine g_cond_f rfl (by first | rfl | (simp; done) | (simp; omega) | (simp; assumption)) ?_
          repeat (first | refine g_endt ?_ | refine g_end ?_ | refine g_then ?_ | refine g_in_normal ?_ | refine g_then_ret ?_ | refine g_in_ret ?_ | refine g_then_exit ?_ | refine g_in_exit rfl ?_ | refine g_in_exit_ne (by decide) ?_ | refine g_seq ?_ | refine g_region ?_ | refine g_block ?_ | refine g_ret ?_ | refine g_return_n ?_ | refine g_exit ?_ | refine g_skip ?_)
          exact g_next
  · intro D
    repeat (first | refine g_endt ?_ | refine g_end ?_ | refine g_then ?_ | refine g_in_normal ?_ | refine g_then_ret ?_ | refine g_in_ret ?_ | refine g_then_exit ?_ | refine g_in_exit rfl ?_ | refine g_in_exit_ne (by decide) ?_ | refine g_seq ?_ | refine g_region ?_ | refine g_block ?_ | refine g_ret ?_ | refine g_return_n ?_ | refine g_exit ?_ | refine g_skip ?_)
    refine g_hideR fun Q_ hQ_ => ?_
    refine o_load1 (v := .int .i64 (causeD e.value lv xs)) rfl rfl ?_
    refine o_assign ?_
    refine g_end (G.imp (hQ_ .normal _) ?_)
    clear hQ_ Q_
    try refine g_then ?_
    repeat (first | refine g_endt ?_ | refine g_end ?_ | refine g_then ?_ | refine g_in_normal ?_ | refine g_then_ret ?_ | refine g_in_ret ?_ | refine g_then_exit ?_ | refine g_in_exit rfl ?_ | refine g_in_exit_ne (by decide) ?_ | refine g_seq ?_ | refine g_region ?_ | refine g_block ?_ | refine g_ret ?_ | refine g_return_n ?_ | refine g_exit ?_ | refine g_skip ?_)
    exact ret1 (K := [MemP m room ps]) rfl (resT rfl) ⟨rfl, rfl⟩
  · intro D c pre hp
    exact G.pu fun h => h.elim
end Go.Proofs.YtonaccfoelgpnaaGreat
/- The document's preference memory: the walks. -/
namespace Go.Proofs.YtonaccfoelgpnaaGreat
open Go Go.Sl
attribute [local irreducible] Exit.then Exit.inBlock Code.wpIn roundPost bodyPostM runL Ret Meets MeetsD Begin

abbrev rC (r : Nat) (room : Int) (a : Option Addr) (n c : Nat) : SProp := cellsB r #[.int .i64 room, .slice a n c] 33
def RefM (r : Nat) (room : Int) (ps : List PrefD) : SProp := ex fun z : Option Addr × Nat => sl [rC r room z.1 ps.length z.2, psl encP 16 z.1 ps]
section
variable {w0 : World} {A : SProp} {L M : List SProp} {Φ : World → Prop}
theorem openRM (r : Nat) (room : Int) (ps : List PrefD) [tk : Take1 L (RefM r room ps) M] (h : ∀ a c, G w0 A (rC r room a ps.length c :: psl encP 16 a ps :: M) Φ) : G w0 A L Φ :=
  G.perm tk.perm (G.ex fun ⟨a, c⟩ => G.open_sl (h a c))
theorem shutRM (r : Nat) (room : Int) (ps : List PrefD) (a : Option Addr) (c : Nat) {n : Nat} (hn : ps.length = n) [tk : Take L [rC r room a n c, psl encP 16 a ps] M] (h : G w0 A (RefM r room ps :: M) Φ) : G w0 A L Φ := by
  subst hn
  exact G.perm tk.perm (G.ent (L := [rC r room a ps.length c, psl encP 16 a ps] ++ M) (L' := RefM r room ps :: M)
    ((sl_append_to [rC r room a ps.length c, psl encP 16 a ps] M).trans (Ent.star (show Ent _ (RefM r room ps) from fun _ _ x => ⟨(a, c), x⟩) (Ent.refl _))) h)
end
theorem eqT {a b : SymD} {r : Bool} (h : a.beq b = r) : EqTy Tryz.prog 39 a.val b.val r := h ▸ eq_sym a b
set_option maxHeartbeats 4000000 in
theorem AddR15_spec (r : Nat) (room : Int) (ps : List PrefD) (A : Option Addr) (n c : Nat) (l : List PrefD) (hl : l.length = n) (hm : n ≤ 10000) (hp : ps.length ≤ 10000) (hsm : ∀ p ∈ l, p.small) :
    Ctr Tryz.prog 31 [.pointer (some ⟨r, 0, none⟩), .slice A n c] [RefM r room ps, psl encP 16 A l] (fun v M => v = .int .i64 (addR room ps l).1 ∧ M = [RefM r room (addR room ps l).2]) := by
  refine spec_of Tryz.func31 rfl Tryz.ntmps31 rfl fun w0 F => ?_
  -- hide
  -- (*ponder/ponderref15.Memory).Add
  repeat (first | refine g_endt ?_ | refine g_end ?_ | refine g_then ?_ | refine g_in_normal ?_ | refine g_then_ret ?_ | refine g_in_ret ?_ | refine g_then_exit ?_ | refine g_in_exit rfl ?_ | refine g_in_exit_ne (by decide) ?_ | refine g_seq ?_ | refine g_region ?_ | refine g_block ?_ | refine g_ret ?_ | refine g_return_n ?_ | refine g_exit ?_ | refine g_skip ?_)
  refine g_hideR fun Q_ hQ_ => ?_
  refine o_assign ?_
  refine g_end (G.imp (hQ_ .normal _) ?_)
  clear hQ_ Q_
  try refine g_then ?_
  repeat (first | refine g_endt ?_ | refine g_end ?_ | refine g_then ?_ | refine g_in_normal ?_ | refine g_then_ret ?_ | refine g_in_ret ?_ | refine g_then_exit ?_ | refine g_in_exit rfl ?_ | refine g_in_exit_ne (by decide) ?_ | refine g_seq ?_ | refine g_region ?_ | refine g_block ?_ | refine g_ret ?_ | refine g_return_n ?_ | refine g_exit ?_ | refine g_skip ?_)
  refine g_hideR fun Q_ hQ_ => ?_
  refine o_assign ?_
  refine g_end (G.imp (hQ_ .normal _) ?_)
  clear hQ_ Q_
  try refine g_then ?_
  repeat (first | refine g_endt ?_ | refine g_end ?_ | refine g_then ?_ | refine g_in_normal ?_ | refine g_then_ret ?_ | refine g_in_ret ?_ | refine g_then_exit ?_ | refine g_in_exit rfl ?_ | refine g_in_exit_ne (by decide) ?_ | refine g_seq ?_ | refine g_region ?_ | refine g_block ?_ | refine g_ret ?_ | refine g_return_n ?_ | refine g_exit ?_ | refine g_skip ?_)
  refine g_loop (σ := {i : Nat // i ≤ n ∧ (l.take i).all validP = true}) (S := fun i => [(0, .pointer (some ⟨r, 0, none⟩)), (1, .slice A n c), (5, .int .i64 (i.1 : Int))]) (H := fun _ => [RefM r room ps, psl encP 16 A l]) (μ := fun i => n - i.1) (s0 := ⟨0, Nat.zero_le _, rfl⟩) (Sat.mem ⟨rfl, rfl, rfl, trivial⟩) ?_
  rintro ⟨i, hi, hall⟩ ρ'
  dsimp only at hi hall ⊢
  repeat (first | refine g_endt ?_ | refine g_end ?_ | refine g_then ?_ | refine g_in_normal ?_ | refine g_then_ret ?_ | refine g_in_ret ?_ | refine g_then_exit ?_ | refine g_in_exit rfl ?_ | refine g_in_exit_ne (by decide) ?_ | refine g_seq ?_ | refine g_region ?_ | refine g_block ?_ | refine g_ret ?_ | refine g_return_n ?_ | refine g_exit ?_ | refine g_skip ?_)
  refine g_hideR fun Q_ hQ_ => ?_
  refine o_move ?_
  refine o_move ?_
  refine o_len rfl rfl ?_
  refine o_lss rfl rfl ?_
  refine g_end (G.imp (hQ_ .normal _) ?_)
  clear hQ_ Q_
  try refine g_then ?_
  by_cases hin : i < n
  · first | refine g_seq (g_cond_t rfl (by first | rfl | (simp; done) | (simp; omega) | (simp; assumption)) ?_) | refine g_cond_t rfl (by first | rfl | (simp; done) | (simp; omega) | (simp; assumption)) ?_
    obtain ⟨x, hx⟩ : ∃ x, l[i]? = some x := ⟨_, List.getElem?_eq_getElem (by omega)⟩
    obtain ⟨v, hv⟩ : ∃ v, validP x = v := ⟨_, rfl⟩
    have hxm := List.mem_of_getElem? hx
    have hva := ValidR15_spec x (hsm x hxm)
    rw [hv] at hva
    repeat (first | refine g_endt ?_ | refine g_end ?_ | refine g_then ?_ | refine g_in_normal ?_ | refine g_then_ret ?_ | refine g_in_ret ?_ | refine g_then_exit ?_ | refine g_in_exit rfl ?_ | refine g_in_exit_ne (by decide) ?_ | refine g_seq ?_ | refine g_region ?_ | refine g_block ?_ | refine g_ret ?_ | refine g_return_n ?_ | refine g_exit ?_ | refine g_skip ?_)
    repeat (first | refine g_endt ?_ | refine g_end ?_ | refine g_then ?_ | refine g_in_normal ?_ | refine g_then_ret ?_ | refine g_in_ret ?_ | refine g_then_exit ?_ | refine g_in_exit rfl ?_ | refine g_in_exit_ne (by decide) ?_ | refine g_seq ?_ | refine g_region ?_ | refine g_block ?_ | refine g_ret ?_ | refine g_return_n ?_ | refine g_exit ?_ | refine g_skip ?_)
    refine g_hideR fun Q_ hQ_ => ?_
    refine o_move ?_
    refine o_move ?_
    refine o_indexR (ys := l) (i := i) rfl rfl rfl (by omega) hl rfl ?_
    refine o_loadE (ys := l) rfl rfl hx ?_
    refine o_call (hva) rfl rfl ?_
    rintro _ _ ⟨rfl, rfl⟩
    refine o_not rfl ?_
    refine g_end (G.imp (hQ_ .normal _) ?_)
    clear hQ_ Q_
    try refine g_then ?_
    cases v with
    | false =>
      first | refine g_seq (g_cond_t rfl (by first | rfl | (simp; done) | (simp; omega) | (simp; assumption)) ?_) | refine g_cond_t rfl (by first | rfl | (simp; done) | (simp; omega) | (simp; assumption)) ?_
      have hbad : l.all validP = false := by rw [List.all_eq_false]; exact ⟨x, hxm, by rw [hv]; decide⟩
      rw [addR_bad hbad]
      repeat (first | refine g_endt ?_ | refine g_end ?_ | refine g_then ?_ | refine g_in_normal ?_ | refine g_then_ret ?_ | refine g_in_ret ?_ | refine g_then_exit ?_ | refine g_in_exit rfl ?_ | refine g_in_exit_ne (by decide) ?_ | refine g_seq ?_ | refine g_region ?_ | refine g_block ?_ | refine g_ret ?_ | refine g_return_n ?_ | refine g_exit ?_ | refine g_skip ?_)
      refine g_hideR fun Q_ hQ_ => ?_
      refine o_assign ?_
      refine g_end (G.imp (hQ_ .normal _) ?_)
      clear hQ_ Q_
      try refine g_then ?_
      repeat (first | refine g_endt ?_ | refine g_end ?_ | refine g_then ?_ | refine g_in_normal ?_ | refine g_then_ret ?_ | refine g_in_ret ?_ | refine g_then_exit ?_ | refine g_in_exit rfl ?_ | refine g_in_exit_ne (by decide) ?_ | refine g_seq ?_ | refine g_region ?_ | refine g_block ?_ | refine g_ret ?_ | refine g_return_n ?_ | refine g_exit ?_ | refine g_skip ?_)
      exact ret1 (K := [RefM r room ps]) rfl (resT (v := .int .i64 9) rfl) ⟨rfl, rfl⟩
    | true =>
      first | refine g_seq (g_cond_f rfl (by first | rfl | (simp; done) | (simp; omega) | (simp; assumption)) ?_) | refine g_cond_f rfl (by first | rfl | (simp; done) | (simp; omega) | (simp; assumption)) ?_
      repeat (first | refine g_endt ?_ | refine g_end ?_ | refine g_then ?_ | refine g_in_normal ?_ | refine g_then_ret ?_ | refine g_in_ret ?_ | refine g_then_exit ?_ | refine g_in_exit rfl ?_ | refine g_in_exit_ne (by decide) ?_ | refine g_seq ?_ | refine g_region ?_ | refine g_block ?_ | refine g_ret ?_ | refine g_return_n ?_ | refine g_exit ?_ | refine g_skip ?_)
      repeat (first | refine g_endt ?_ | refine g_end ?_ | refine g_then ?_ | refine g_in_normal ?_ | refine g_then_ret ?_ | refine g_in_ret ?_ | refine g_then_exit ?_ | refine g_in_exit rfl ?_ | refine g_in_exit_ne (by decide) ?_ | refine g_seq ?_ | refine g_region ?_ | refine g_block ?_ | refine g_ret ?_ | refine g_return_n ?_ | refine g_exit ?_ | refine g_skip ?_)
      refine g_hideR fun Q_ hQ_ => ?_
      refine o_move ?_
      refine o_add (c := ((i + 1 : Nat) : Int)) rfl rfl (by omega) (by omega) (by omega) ?_
      refine o_assign ?_
      refine g_end (G.imp (hQ_ .normal _) ?_)
      clear hQ_ Q_
      try refine g_then ?_
      repeat (first | refine g_endt ?_ | refine g_end ?_ | refine g_then ?_ | refine g_in_normal ?_ | refine g_then_ret ?_ | refine g_in_ret ?_ | refine g_then_exit ?_ | refine g_in_exit rfl ?_ | refine g_in_exit_ne (by decide) ?_ | refine g_seq ?_ | refine g_region ?_ | refine g_block ?_ | refine g_ret ?_ | refine g_return_n ?_ | refine g_exit ?_ | refine g_skip ?_)
      exact g_meets ⟨i + 1, hin, by rw [List.take_add_one, hx, List.all_append, hall]; simp [hv]⟩ (by show n - (i + 1) < n - i; omega) (Sat.mem ⟨rfl, rfl, rfl, trivial⟩)
  first | refine g_seq (g_cond_f rfl (by simp; omega) ?_) | refine g_cond_f rfl (by simp; omega) ?_
  rw [List.take_of_length_le (by omega)] at hall
  repeat (first | refine g_endt ?_ | refine g_end ?_ | refine g_then ?_ | refine g_in_normal ?_ | refine g_then_ret ?_ | refine g_in_ret ?_ | refine g_then_exit ?_ | refine g_in_exit rfl ?_ | refine g_in_exit_ne (by decide) ?_ | refine g_seq ?_ | refine g_region ?_ | refine g_block ?_ | refine g_ret ?_ | refine g_return_n ?_ | refine g_exit ?_ | refine g_skip ?_)
  refine g_hideR fun Q_ hQ_ => ?_
  refine o_assign ?_
  refine g_end (G.imp (hQ_ .normal _) ?_)
  clear hQ_ Q_
  try refine g_then ?_
  refine openRM r room ps fun a c0 => ?_
  repeat (first | refine g_endt ?_ | refine g_end ?_ | refine g_then ?_ | refine g_in_normal ?_ | refine g_then_ret ?_ | refine g_in_ret ?_ | refine g_then_exit ?_ | refine g_in_exit rfl ?_ | refine g_in_exit_ne (by decide) ?_ | refine g_seq ?_ | refine g_region ?_ | refine g_block ?_ | refine g_ret ?_ | refine g_return_n ?_ | refine g_exit ?_ | refine g_skip ?_)
  refine g_hideR fun Q_ hQ_ => ?_
  refine o_assign ?_
  refine g_end (G.imp (hQ_ .normal _) ?_)
  clear hQ_ Q_
  try refine g_then ?_
  refine G.nil_slice (α := PrefD) 41 encP 16 ?_
  repeat (first | refine g_endt ?_ | refine g_end ?_ | refine g_then ?_ | refine g_in_normal ?_ | refine g_then_ret ?_ | refine g_in_ret ?_ | refine g_then_exit ?_ | refine g_in_exit rfl ?_ | refine g_in_exit_ne (by decide) ?_ | refine g_seq ?_ | refine g_region ?_ | refine g_block ?_ | refine g_ret ?_ | refine g_return_n ?_ | refine g_exit ?_ | refine g_skip ?_)
  refine g_loop (σ := {t : Nat × Option Addr × Nat // t.1 ≤ ps.length}) (S := fun t => [(0, .pointer (some ⟨r, 0, none⟩)), (1, .slice A n c), (6, .slice t.1.2.1 ((ps.take t.1.1).filter fun q => !l.any fun p => takesP p q).length t.1.2.2), (7, .int .i64 (t.1.1 : Int))])
    (H := fun t => [rC r room a ps.length c0, psl encP 16 a ps, psl encP 16 A l, oP t.1.2.1 t.1.2.2 ((ps.take t.1.1).filter fun q => !l.any fun p => takesP p q)]) (μ := fun t => ps.length - t.1.1) (s0 := ⟨(0, none, 0), Nat.zero_le _⟩) (Sat.mem ⟨rfl, rfl, rfl, rfl, trivial⟩) (t := (inferInstance : Take _ [rC r room a ps.length c0, psl encP 16 a ps, psl encP 16 A l, oP none 0 []] _)) ?_
  rintro ⟨⟨i2, S, s⟩, hi2⟩ ρ2
  dsimp only at hi2 ⊢
  have hol : ((ps.take i2).filter fun q => !l.any fun p => takesP p q).length ≤ i2 := Nat.le_trans (List.length_filter_le _ _) (by simp; omega)
  repeat (first | refine g_endt ?_ | refine g_end ?_ | refine g_then ?_ | refine g_in_normal ?_ | refine g_then_ret ?_ | refine g_in_ret ?_ | refine g_then_exit ?_ | refine g_in_exit rfl ?_ | refine g_in_exit_ne (by decide) ?_ | refine g_seq ?_ | refine g_region ?_ | refine g_block ?_ | refine g_ret ?_ | refine g_return_n ?_ | refine g_exit ?_ | refine g_skip ?_)
  refine g_hideR fun Q_ hQ_ => ?_
  refine o_move ?_
  refine o_move ?_
  refine o_nil rfl ?_
  first | refine o_field rfl ?_ | refine o_fieldR rfl (by omega) ?_
  refine o_load1 (v := .slice a ps.length c0) rfl rfl ?_
  refine o_len rfl rfl ?_
  refine o_lss rfl rfl ?_
  refine g_end (G.imp (hQ_ .normal _) ?_)
  clear hQ_ Q_
  try refine g_then ?_
  by_cases hin2 : i2 < ps.length
  · first | refine g_seq (g_cond_t rfl (by first | rfl | (simp; done) | (simp; omega) | (simp; assumption)) ?_) | refine g_cond_t rfl (by first | rfl | (simp; done) | (simp; omega) | (simp; assumption)) ?_
    obtain ⟨q, hq⟩ : ∃ q, ps[i2]? = some q := ⟨_, List.getElem?_eq_getElem hin2⟩
    have hft := filter_take (fun q => !l.any fun p => takesP p q) hq
    generalize hos : ((ps.take i2).filter fun q => !l.any fun p => takesP p q) = os at hol hft ⊢
    repeat (first | refine g_endt ?_ | refine g_end ?_ | refine g_then ?_ | refine g_in_normal ?_ | refine g_then_ret ?_ | refine g_in_ret ?_ | refine g_then_exit ?_ | refine g_in_exit rfl ?_ | refine g_in_exit_ne (by decide) ?_ | refine g_seq ?_ | refine g_region ?_ | refine g_block ?_ | refine g_ret ?_ | refine g_return_n ?_ | refine g_exit ?_ | refine g_skip ?_)
    repeat (first | refine g_endt ?_ | refine g_end ?_ | refine g_then ?_ | refine g_in_normal ?_ | refine g_then_ret ?_ | refine g_in_ret ?_ | refine g_then_exit ?_ | refine g_in_exit rfl ?_ | refine g_in_exit_ne (by decide) ?_ | refine g_seq ?_ | refine g_region ?_ | refine g_block ?_ | refine g_ret ?_ | refine g_return_n ?_ | refine g_exit ?_ | refine g_skip ?_)
    refine g_hideR fun Q_ hQ_ => ?_
    refine o_move ?_
    refine o_nil rfl ?_
    first | refine o_field rfl ?_ | refine o_fieldR rfl (by omega) ?_
    refine o_load1 (v := .slice a ps.length c0) rfl rfl ?_
    refine o_move ?_
    refine o_indexR (ys := ps) (i := i2) rfl rfl rfl hin2 rfl rfl ?_
    refine o_loadE (ys := ps) rfl rfl hq ?_
    refine o_alloc fun c8 => ?_
    refine o_store (v := q.val) rfl rfl rfl rfl rfl ?_
    refine g_end (G.imp (hQ_ .normal _) ?_)
    clear hQ_ Q_
    try refine g_then ?_
    refine G.norm c8 q.val.cells rfl ?_
    repeat (first | refine g_endt ?_ | refine g_end ?_ | refine g_then ?_ | refine g_in_normal ?_ | refine g_then_ret ?_ | refine g_in_ret ?_ | refine g_then_exit ?_ | refine g_in_exit rfl ?_ | refine g_in_exit_ne (by decide) ?_ | refine g_seq ?_ | refine g_region ?_ | refine g_block ?_ | refine g_ret ?_ | refine g_return_n ?_ | refine g_exit ?_ | refine g_skip ?_)
    refine g_hideR fun Q_ hQ_ => ?_
    refine o_assign ?_
    refine g_end (G.imp (hQ_ .normal _) ?_)
    clear hQ_ Q_
    try refine g_then ?_
    refine g_cut (σ := Unit) (ds' := []) (S := fun _ => [(0, .pointer (some ⟨r, 0, none⟩)), (1, .slice A n c), (6, .slice S os.length s), (7, .int .i64 (i2 : Int)), (8, .pointer (some ⟨c8, 0, none⟩)), (9, .bool (!l.any fun p => takesP p q))])
      (H := fun _ => [cPf c8 q, rC r room a ps.length c0, psl encP 16 a ps, psl encP 16 A l, oP S s os]) (ok := fun _ => True) ?_ ?_
    · skip
      repeat (first | refine g_endt ?_ | refine g_end ?_ | refine g_then ?_ | refine g_in_normal ?_ | refine g_then_ret ?_ | refine g_in_ret ?_ | refine g_then_exit ?_ | refine g_in_exit rfl ?_ | refine g_in_exit_ne (by decide) ?_ | refine g_seq ?_ | refine g_region ?_ | refine g_block ?_ | refine g_ret ?_ | refine g_return_n ?_ | refine g_exit ?_ | refine g_skip ?_)
      refine g_hideR fun Q_ hQ_ => ?_
      refine o_assign ?_
      refine g_end (G.imp (hQ_ .normal _) ?_)
      clear hQ_ Q_
      try refine g_then ?_
      repeat (first | refine g_endt ?_ | refine g_end ?_ | refine g_then ?_ | refine g_in_normal ?_ | refine g_then_ret ?_ | refine g_in_ret ?_ | refine g_then_exit ?_ | refine g_in_exit rfl ?_ | refine g_in_exit_ne (by decide) ?_ | refine g_seq ?_ | refine g_region ?_ | refine g_block ?_ | refine g_ret ?_ | refine g_return_n ?_ | refine g_exit ?_ | refine g_skip ?_)
      refine g_loop (σ := {j : Nat // j ≤ n}) (S := fun j => [(0, .pointer (some ⟨r, 0, none⟩)), (1, .slice A n c), (6, .slice S os.length s), (7, .int .i64 (i2 : Int)), (8, .pointer (some ⟨c8, 0, none⟩)), (9, .bool (!(l.take j.1).any fun p => takesP p q)), (10, .int .i64 (j.1 : Int))])
        (H := fun _ => [cPf c8 q, rC r room a ps.length c0, psl encP 16 a ps, psl encP 16 A l, oP S s os]) (μ := fun j => n - j.1) (s0 := ⟨0, Nat.zero_le _⟩) (Sat.mem ⟨rfl, rfl, rfl, rfl, rfl, rfl, rfl, trivial⟩) ?_
      rintro ⟨j, hj⟩ ρ3
      dsimp only at hj ⊢
      repeat (first | refine g_endt ?_ | refine g_end ?_ | refine g_then ?_ | refine g_in_normal ?_ | refine g_then_ret ?_ | refine g_in_ret ?_ | refine g_then_exit ?_ | refine g_in_exit rfl ?_ | refine g_in_exit_ne (by decide) ?_ | refine g_seq ?_ | refine g_region ?_ | refine g_block ?_ | refine g_ret ?_ | refine g_return_n ?_ | refine g_exit ?_ | refine g_skip ?_)
      refine g_hideR fun Q_ hQ_ => ?_
      refine o_move ?_
      refine o_move ?_
      refine o_len rfl rfl ?_
      refine o_lss rfl rfl ?_
      refine g_end (G.imp (hQ_ .normal _) ?_)
      clear hQ_ Q_
      try refine g_then ?_
      by_cases hjn : j < n
      · first | refine g_seq (g_cond_t rfl (by first | rfl | (simp; done) | (simp; omega) | (simp; assumption)) ?_) | refine g_cond_t rfl (by first | rfl | (simp; done) | (simp; omega) | (simp; assumption)) ?_
        obtain ⟨x, hx⟩ : ∃ x, l[j]? = some x := ⟨_, List.getElem?_eq_getElem (by omega)⟩
        have hnx := any_take (fun p => takesP p q) hx
        generalize ((l.take j).any fun p => takesP p q) = g at hnx ⊢
        refine g_skip ?_
        refine g_then ?_
        refine g_cut (σ := Unit) (ds' := []) (S := fun _ => [(0, .pointer (some ⟨r, 0, none⟩)), (1, .slice A n c), (6, .slice S os.length s), (7, .int .i64 (i2 : Int)), (8, .pointer (some ⟨c8, 0, none⟩)), (9, .bool (!(g || takesP x q))), (10, .int .i64 (j : Int))])
          (H := fun _ => [cPf c8 q, rC r room a ps.length c0, psl encP 16 a ps, psl encP 16 A l, oP S s os]) (ok := fun _ => True) ?_ ?_
        · skip
          repeat (first | refine g_endt ?_ | refine g_end ?_ | refine g_then ?_ | refine g_in_normal ?_ | refine g_then_ret ?_ | refine g_in_ret ?_ | refine g_then_exit ?_ | refine g_in_exit rfl ?_ | refine g_in_exit_ne (by decide) ?_ | refine g_seq ?_ | refine g_region ?_ | refine g_block ?_ | refine g_ret ?_ | refine g_return_n ?_ | refine g_exit ?_ | refine g_skip ?_)
          repeat (first | refine g_endt ?_ | refine g_end ?_ | refine g_then ?_ | refine g_in_normal ?_ | refine g_then_ret ?_ | refine g_in_ret ?_ | refine g_then_exit ?_ | refine g_in_exit rfl ?_ | refine g_in_exit_ne (by decide) ?_ | refine g_seq ?_ | refine g_region ?_ | refine g_block ?_ | refine g_ret ?_ | refine g_return_n ?_ | refine g_exit ?_ | refine g_skip ?_)
          refine g_hideR fun Q_ hQ_ => ?_
          refine o_move ?_
          refine o_move ?_
          refine o_indexR (ys := l) (i := j) rfl rfl rfl (by omega) hl rfl ?_
          refine o_loadE (ys := l) rfl rfl hx ?_
          refine o_alloc fun c11 => ?_
          refine o_store (v := x.val) rfl rfl rfl rfl rfl ?_
          refine g_end (G.imp (hQ_ .normal _) ?_)
          clear hQ_ Q_
          try refine g_then ?_
          refine G.norm c11 x.val.cells rfl ?_
          repeat (first | refine g_endt ?_ | refine g_end ?_ | refine g_then ?_ | refine g_in_normal ?_ | refine g_then_ret ?_ | refine g_in_ret ?_ | refine g_then_exit ?_ | refine g_in_exit rfl ?_ | refine g_in_exit_ne (by decide) ?_ | refine g_seq ?_ | refine g_block ?_ | refine g_ret ?_ | refine g_return_n ?_ | refine g_exit ?_ | refine g_skip ?_)
          refine g_cutk (σ := Bool) (ds' := []) (S := fun t => [(0, .pointer (some ⟨r, 0, none⟩)), (1, .slice A n c), (6, .slice S os.length s), (7, .int .i64 (i2 : Int)), (8, .pointer (some ⟨c8, 0, none⟩)), (9, .bool (!g)), (10, .int .i64 (j : Int)), (82, .bool t)]) (H := fun _ => [cPf c8 q, rC r room a ps.length c0, psl encP 16 a ps, psl encP 16 A l, oP S s os]) (ok := fun t => t = takesP x q) ?_ ?_
          · skip
            repeat (first | refine g_endt ?_ | refine g_end ?_ | refine g_then ?_ | refine g_in_normal ?_ | refine g_then_ret ?_ | refine g_in_ret ?_ | refine g_then_exit ?_ | refine g_in_exit rfl ?_ | refine g_in_exit_ne (by decide) ?_ | refine g_seq ?_ | refine g_region ?_ | refine g_block ?_ | refine g_ret ?_ | refine g_return_n ?_ | refine g_exit ?_ | refine g_skip ?_)
            refine o_loadN (v := x.val) rfl rfl rfl ?_
            refine o_call (rejectsR_spec x) rfl rfl ?_
            rintro _ _ ⟨rfl, rfl⟩
            refine o_moveB rfl (fun h2 => ?_) (fun h2 => ?_)
            · first | refine o_want rfl rfl rfl rfl rfl <| o_field rfl ?_ | refine o_want rfl rfl rfl rfl rfl <| o_fieldR rfl (by omega) ?_
              refine o_want rfl rfl rfl rfl rfl <| o_load1 (v := .bool q.o) rfl rfl ?_
              refine o_pick_t rfl rfl ?_
              refine o_moveB rfl (fun h6 => ?_) (fun h6 => ?_)
              · first | refine o_want rfl rfl rfl rfl rfl <| o_field rfl ?_ | refine o_want rfl rfl rfl rfl rfl <| o_fieldR rfl (by omega) ?_
                refine o_want rfl rfl rfl rfl rfl <| o_load1 (v := .int .i64 q.kind) rfl rfl ?_
                refine o_want rfl rfl rfl rfl rfl <| o_eql rfl rfl ?_
                refine o_pick_t rfl rfl ?_
                refine o_moveB rfl (fun h11 => ?_) (fun h11 => ?_)
                · first | refine o_want rfl rfl rfl rfl rfl <| o_field rfl ?_ | refine o_want rfl rfl rfl rfl rfl <| o_fieldR rfl (by omega) ?_
                  refine o_want rfl rfl rfl rfl rfl <| o_loadN (v := q.id.val) rfl rfl rfl ?_
                  first | refine o_want rfl rfl rfl rfl rfl <| o_field rfl ?_ | refine o_want rfl rfl rfl rfl rfl <| o_fieldR rfl (by omega) ?_
                  refine o_want rfl rfl rfl rfl rfl <| o_loadN (v := x.id.val) rfl rfl rfl ?_
                  refine o_want rfl rfl rfl rfl rfl <| o_eqty rfl rfl (eq_sym q.id x.id) ?_
                  refine o_pick_t rfl rfl ?_
                  refine o_moveB rfl (fun h18 => ?_) (fun h18 => ?_)
                  · first | refine o_want rfl rfl rfl rfl rfl <| o_field rfl ?_ | refine o_want rfl rfl rfl rfl rfl <| o_fieldR rfl (by omega) ?_
                    refine o_want rfl rfl rfl rfl rfl <| o_loadN (v := q.attr.val) rfl rfl rfl ?_
                    first | refine o_want rfl rfl rfl rfl rfl <| o_field rfl ?_ | refine o_want rfl rfl rfl rfl rfl <| o_fieldR rfl (by omega) ?_
                    refine o_want rfl rfl rfl rfl rfl <| o_loadN (v := x.attr.val) rfl rfl rfl ?_
                    refine o_want rfl rfl rfl rfl rfl <| o_eqty rfl rfl (eq_sym q.attr x.attr) ?_
                    refine o_pick_t rfl rfl ?_
                    refine o_moveB rfl (fun h25 => ?_) (fun h25 => ?_)
                    · first | refine o_want rfl rfl rfl rfl rfl <| o_field rfl ?_ | refine o_want rfl rfl rfl rfl rfl <| o_fieldR rfl (by omega) ?_
                      refine o_want rfl rfl rfl rfl rfl <| o_loadN (v := q.value.val) rfl rfl rfl ?_
                      first | refine o_want rfl rfl rfl rfl rfl <| o_field rfl ?_ | refine o_want rfl rfl rfl rfl rfl <| o_fieldR rfl (by omega) ?_
                      refine o_want rfl rfl rfl rfl rfl <| o_loadN (v := x.value.val) rfl rfl rfl ?_
                      refine o_want rfl rfl rfl rfl rfl <| o_eqty rfl rfl (eq_sym q.value x.value) ?_
                      refine o_pick_t rfl rfl ?_
                      first | refine g_endt ?_ | refine g_end ?_
                      refine g_meets _ ?_ (Sat.mem ⟨rfl, rfl, rfl, rfl, rfl, rfl, rfl, rfl, trivial⟩)
                      (unfold takesP; rw [Bool.eq_iff_iff]; simp_all)
                    · refine o_unwanted rfl rfl rfl rfl rfl ?_
                      refine o_unwanted rfl rfl rfl rfl rfl ?_
                      refine o_unwanted rfl rfl rfl rfl rfl ?_
                      refine o_unwanted rfl rfl rfl rfl rfl ?_
                      refine o_unwanted rfl rfl rfl rfl rfl ?_
                      refine o_pick_f rfl rfl ?_
                      first | refine g_endt ?_ | refine g_end ?_
                      refine g_meets _ ?_ (Sat.mem ⟨rfl, rfl, rfl, rfl, rfl, rfl, rfl, rfl, trivial⟩)
                      (unfold takesP; rw [Bool.eq_iff_iff]; simp_all)
                  · refine o_unwanted rfl rfl rfl rfl rfl ?_
                    refine o_unwanted rfl rfl rfl rfl rfl ?_
                    refine o_unwanted rfl rfl rfl rfl rfl ?_
                    refine o_unwanted rfl rfl rfl rfl rfl ?_
                    refine o_unwanted rfl rfl rfl rfl rfl ?_
                    refine o_pick_f rfl rfl ?_
                    refine o_move ?_
                    refine o_unwanted rfl rfl rfl rfl rfl ?_
                    refine o_unwanted rfl rfl rfl rfl rfl ?_
                    refine o_unwanted rfl rfl rfl rfl rfl ?_
                    refine o_unwanted rfl rfl rfl rfl rfl ?_
                    refine o_unwanted rfl rfl rfl rfl rfl ?_
                    refine o_pick_f rfl rfl ?_
                    first | refine g_endt ?_ | refine g_end ?_
                    refine g_meets _ ?_ (Sat.mem ⟨rfl, rfl, rfl, rfl, rfl, rfl, rfl, rfl, trivial⟩)
                    (unfold takesP; rw [Bool.eq_iff_iff]; simp_all)
                · refine o_unwanted rfl rfl rfl rfl rfl ?_
                  refine o_unwanted rfl rfl rfl rfl rfl ?_
                  refine o_unwanted rfl rfl rfl rfl rfl ?_
                  refine o_unwanted rfl rfl rfl rfl rfl ?_
                  refine o_unwanted rfl rfl rfl rfl rfl ?_
                  refine o_pick_f rfl rfl ?_
                  refine o_move ?_
                  refine o_unwanted rfl rfl rfl rfl rfl ?_
                  refine o_unwanted rfl rfl rfl rfl rfl ?_
                  refine o_unwanted rfl rfl rfl rfl rfl ?_
                  refine o_unwanted rfl rfl rfl rfl rfl ?_
                  refine o_unwanted rfl rfl rfl rfl rfl ?_
                  refine o_pick_f rfl rfl ?_
                  refine o_move ?_
                  refine o_unwanted rfl rfl rfl rfl rfl ?_
                  refine o_unwanted rfl rfl rfl rfl rfl ?_
                  refine o_unwanted rfl rfl rfl rfl rfl ?_
                  refine o_unwanted rfl rfl rfl rfl rfl ?_
                  refine o_unwanted rfl rfl rfl rfl rfl ?_
                  refine o_pick_f rfl rfl ?_
                  first | refine g_endt ?_ | refine g_end ?_
                  refine g_meets _ ?_ (Sat.mem ⟨rfl, rfl, rfl, rfl, rfl, rfl, rfl, rfl, trivial⟩)
                  (unfold takesP; rw [Bool.eq_iff_iff]; simp_all)
              · refine o_unwanted rfl rfl rfl rfl rfl ?_
                refine o_unwanted rfl rfl rfl rfl rfl ?_
                refine o_unwanted rfl rfl rfl rfl rfl ?_
                refine o_pick_f rfl rfl ?_
                refine o_move ?_
                refine o_unwanted rfl rfl rfl rfl rfl ?_
                refine o_unwanted rfl rfl rfl rfl rfl ?_
                refine o_unwanted rfl rfl rfl rfl rfl ?_
                refine o_unwanted rfl rfl rfl rfl rfl ?_
                refine o_unwanted rfl rfl rfl rfl rfl ?_
                refine o_pick_f rfl rfl ?_
                refine o_move ?_
                refine o_unwanted rfl rfl rfl rfl rfl ?_
                refine o_unwanted rfl rfl rfl rfl rfl ?_
                refine o_unwanted rfl rfl rfl rfl rfl ?_
                refine o_unwanted rfl rfl rfl rfl rfl ?_
                refine o_unwanted rfl rfl rfl rfl rfl ?_
                refine o_pick_f rfl rfl ?_
                refine o_move ?_
                refine o_unwanted rfl rfl rfl rfl rfl ?_
                refine o_unwanted rfl rfl rfl rfl rfl ?_
                refine o_unwanted rfl rfl rfl rfl rfl ?_
                refine o_unwanted rfl rfl rfl rfl rfl ?_
                refine o_unwanted rfl rfl rfl rfl rfl ?_
                refine o_pick_f rfl rfl ?_
                first | refine g_endt ?_ | refine g_end ?_
                refine g_meets _ ?_ (Sat.mem ⟨rfl, rfl, rfl, rfl, rfl, rfl, rfl, rfl, trivial⟩)
                (unfold takesP; rw [Bool.eq_iff_iff]; simp_all)
            · refine o_unwanted rfl rfl rfl rfl rfl ?_
              refine o_unwanted rfl rfl rfl rfl rfl ?_
              refine o_pick_f rfl rfl ?_
              refine o_move ?_
              refine o_unwanted rfl rfl rfl rfl rfl ?_
              refine o_unwanted rfl rfl rfl rfl rfl ?_
              refine o_unwanted rfl rfl rfl rfl rfl ?_
              refine o_pick_f rfl rfl ?_
              refine o_move ?_
              refine o_unwanted rfl rfl rfl rfl rfl ?_
              refine o_unwanted rfl rfl rfl rfl rfl ?_
              refine o_unwanted rfl rfl rfl rfl rfl ?_
              refine o_unwanted rfl rfl rfl rfl rfl ?_
              refine o_unwanted rfl rfl rfl rfl rfl ?_
              refine o_pick_f rfl rfl ?_
              refine o_move ?_
              refine o_unwanted rfl rfl rfl rfl rfl ?_
              refine o_unwanted rfl rfl rfl rfl rfl ?_
              refine o_unwanted rfl rfl rfl rfl rfl ?_
              refine o_unwanted rfl rfl rfl rfl rfl ?_
              refine o_unwanted rfl rfl rfl rfl rfl ?_
              refine o_pick_f rfl rfl ?_
              refine o_move ?_
              refine o_unwanted rfl rfl rfl rfl rfl ?_
              refine o_unwanted rfl rfl rfl rfl rfl ?_
              refine o_unwanted rfl rfl rfl rfl rfl ?_
              refine o_unwanted rfl rfl rfl rfl rfl ?_
              refine o_unwanted rfl rfl rfl rfl rfl ?_
              refine o_pick_f rfl rfl ?_
              first | refine g_endt ?_ | refine g_end ?_
              refine g_meets _ ?_ (Sat.mem ⟨rfl, rfl, rfl, rfl, rfl, rfl, rfl, rfl, trivial⟩)
              (unfold takesP; rw [Bool.eq_iff_iff]; simp_all)
          rintro t ρ4 rfl
          cases ht : takesP x q with
          | true =>
            rw [Bool.or_true]
            first | refine g_seq (g_cond_t rfl (by first | rfl | (simp; done) | (simp; omega) | (simp; assumption)) ?_) | refine g_cond_t rfl (by first | rfl | (simp; done) | (simp; omega) | (simp; assumption)) ?_
            repeat (first | refine g_endt ?_ | refine g_end ?_ | refine g_then ?_ | refine g_in_normal ?_ | refine g_then_ret ?_ | refine g_in_ret ?_ | refine g_then_exit ?_ | refine g_in_exit rfl ?_ | refine g_in_exit_ne (by decide) ?_ | refine g_seq ?_ | refine g_region ?_ | refine g_block ?_ | refine g_ret ?_ | refine g_return_n ?_ | refine g_exit ?_ | refine g_skip ?_)
            refine g_hideR fun Q_ hQ_ => ?_
            refine o_assign ?_
            refine g_end (G.imp (hQ_ .normal _) ?_)
            clear hQ_ Q_
            try refine g_then ?_
            repeat (first | refine g_endt ?_ | refine g_end ?_ | refine g_then ?_ | refine g_in_normal ?_ | refine g_then_ret ?_ | refine g_in_ret ?_ | refine g_then_exit ?_ | refine g_in_exit rfl ?_ | refine g_in_exit_ne (by decide) ?_ | refine g_seq ?_ | refine g_region ?_ | refine g_block ?_ | refine g_ret ?_ | refine g_return_n ?_ | refine g_exit ?_ | refine g_skip ?_)
            exact g_meets () trivial (Sat.mem ⟨rfl, rfl, rfl, rfl, rfl, rfl, rfl, trivial⟩)
          | false =>
            rw [Bool.or_false]
            first | refine g_seq (g_cond_f rfl (by first | rfl | (simp; done) | (simp; omega) | (simp; assumption)) ?_) | refine g_cond_f rfl (by first | rfl | (simp; done) | (simp; omega) | (simp; assumption)) ?_
            repeat (first | refine g_endt ?_ | refine g_end ?_ | refine g_then ?_ | refine g_in_normal ?_ | refine g_then_ret ?_ | refine g_in_ret ?_ | refine g_then_exit ?_ | refine g_in_exit rfl ?_ | refine g_in_exit_ne (by decide) ?_ | refine g_seq ?_ | refine g_region ?_ | refine g_block ?_ | refine g_ret ?_ | refine g_return_n ?_ | refine g_exit ?_ | refine g_skip ?_)
            exact g_meets () trivial (Sat.mem ⟨rfl, rfl, rfl, rfl, rfl, rfl, rfl, trivial⟩)
        · rintro _ ρ4 _
          rw [← hnx]
          repeat (first | refine g_endt ?_ | refine g_end ?_ | refine g_then ?_ | refine g_in_normal ?_ | refine g_then_ret ?_ | refine g_in_ret ?_ | refine g_then_exit ?_ | refine g_in_exit rfl ?_ | refine g_in_exit_ne (by decide) ?_ | refine g_seq ?_ | refine g_region ?_ | refine g_block ?_ | refine g_ret ?_ | refine g_return_n ?_ | refine g_exit ?_ | refine g_skip ?_)
          refine g_hideR fun Q_ hQ_ => ?_
          refine o_move ?_
          refine o_add (c := ((j + 1 : Nat) : Int)) rfl rfl (by omega) (by omega) (by omega) ?_
          refine o_assign ?_
          refine g_end (G.imp (hQ_ .normal _) ?_)
          clear hQ_ Q_
          try refine g_then ?_
          repeat (first | refine g_endt ?_ | refine g_end ?_ | refine g_then ?_ | refine g_in_normal ?_ | refine g_then_ret ?_ | refine g_in_ret ?_ | refine g_then_exit ?_ | refine g_in_exit rfl ?_ | refine g_in_exit_ne (by decide) ?_ | refine g_seq ?_ | refine g_region ?_ | refine g_block ?_ | refine g_ret ?_ | refine g_return_n ?_ | refine g_exit ?_ | refine g_skip ?_)
          exact g_meets ⟨j + 1, hjn⟩ (by show n - (j + 1) < n - j; omega) (Sat.mem ⟨rfl, rfl, rfl, rfl, rfl, rfl, rfl, trivial⟩)
      · first | refine g_seq (g_cond_f rfl (by simp; omega) ?_) | refine g_cond_f rfl (by simp; omega) ?_
        rw [List.take_of_length_le (by omega)]
        repeat (first | refine g_endt ?_ | refine g_end ?_ | refine g_then ?_ | refine g_in_normal ?_ | refine g_then_ret ?_ | refine g_in_ret ?_ | refine g_then_exit ?_ | refine g_in_exit rfl ?_ | refine g_in_exit_ne (by decide) ?_ | refine g_seq ?_ | refine g_region ?_ | refine g_block ?_ | refine g_ret ?_ | refine g_return_n ?_ | refine g_exit ?_ | refine g_skip ?_)
        exact g_meets () trivial (Sat.mem ⟨rfl, rfl, rfl, rfl, rfl, rfl, trivial⟩)
    rintro _ ρ3 _
    generalize (!l.any fun p => takesP p q) = g at hft ⊢
    repeat (first | refine g_endt ?_ | refine g_end ?_ | refine g_then ?_ | refine g_in_normal ?_ | refine g_then_ret ?_ | refine g_in_ret ?_ | refine g_then_exit ?_ | refine g_in_exit rfl ?_ | refine g_in_exit_ne (by decide) ?_ | refine g_seq ?_ | refine g_region ?_ | refine g_block ?_ | refine g_ret ?_ | refine g_return_n ?_ | refine g_exit ?_ | refine g_skip ?_)
    refine g_hideR fun Q_ hQ_ => ?_
    refine o_move ?_
    refine g_end (G.imp (hQ_ .normal _) ?_)
    clear hQ_ Q_
    try refine g_then ?_
    cases g with
    | false =>
      rw [if_neg (by decide), List.append_nil] at hft
      first | refine g_seq (g_cond_f rfl (by first | rfl | (simp; done) | (simp; omega) | (simp; assumption)) ?_) | refine g_cond_f rfl (by first | rfl | (simp; done) | (simp; omega) | (simp; assumption)) ?_
      repeat (first | refine g_endt ?_ | refine g_end ?_ | refine g_then ?_ | refine g_in_normal ?_ | refine g_then_ret ?_ | refine g_in_ret ?_ | refine g_then_exit ?_ | refine g_in_exit rfl ?_ | refine g_in_exit_ne (by decide) ?_ | refine g_seq ?_ | refine g_region ?_ | refine g_block ?_ | refine g_ret ?_ | refine g_return_n ?_ | refine g_exit ?_ | refine g_skip ?_)
      repeat (first | refine g_endt ?_ | refine g_end ?_ | refine g_then ?_ | refine g_in_normal ?_ | refine g_then_ret ?_ | refine g_in_ret ?_ | refine g_then_exit ?_ | refine g_in_exit rfl ?_ | refine g_in_exit_ne (by decide) ?_ | refine g_seq ?_ | refine g_region ?_ | refine g_block ?_ | refine g_ret ?_ | refine g_return_n ?_ | refine g_exit ?_ | refine g_skip ?_)
      refine g_hideR fun Q_ hQ_ => ?_
      refine o_move ?_
      refine o_add (c := ((i2 + 1 : Nat) : Int)) rfl rfl (by omega) (by omega) (by omega) ?_
      refine o_assign ?_
      refine g_end (G.imp (hQ_ .normal _) ?_)
      clear hQ_ Q_
      try refine g_then ?_
      repeat (first | refine g_endt ?_ | refine g_end ?_ | refine g_then ?_ | refine g_in_normal ?_ | refine g_then_ret ?_ | refine g_in_ret ?_ | refine g_then_exit ?_ | refine g_in_exit rfl ?_ | refine g_in_exit_ne (by decide) ?_ | refine g_seq ?_ | refine g_region ?_ | refine g_block ?_ | refine g_ret ?_ | refine g_return_n ?_ | refine g_exit ?_ | refine g_skip ?_)
      exact g_meets ⟨(i2 + 1, S, s), hin2⟩ (by show ps.length - (i2 + 1) < ps.length - i2; omega) (Sat.mem ⟨rfl, rfl, by rw [hft]; rfl, rfl, trivial⟩) (t := by
        show Take _ [rC r room a ps.length c0, psl encP 16 a ps, psl encP 16 A l, oP S s ((ps.take (i2 + 1)).filter fun q => !l.any fun p => takesP p q)] _
        rw [hft]; infer_instance)
    | true =>
      rw [if_pos rfl] at hft
      first | refine g_seq (g_cond_t rfl (by first | rfl | (simp; done) | (simp; omega) | (simp; assumption)) ?_) | refine g_cond_t rfl (by first | rfl | (simp; done) | (simp; omega) | (simp; assumption)) ?_
      repeat (first | refine g_endt ?_ | refine g_end ?_ | refine g_then ?_ | refine g_in_normal ?_ | refine g_then_ret ?_ | refine g_in_ret ?_ | refine g_then_exit ?_ | refine g_in_exit rfl ?_ | refine g_in_exit_ne (by decide) ?_ | refine g_seq ?_ | refine g_region ?_ | refine g_block ?_ | refine g_ret ?_ | refine g_return_n ?_ | refine g_exit ?_ | refine g_skip ?_)
      refine g_hideR fun Q_ hQ_ => ?_
      refine o_move ?_
      refine o_loadN (v := q.val) rfl rfl rfl ?_
      refine o_litP (e := 41) encP [q] (q).val.cells (fun w => by kernel_rfl) (by simp [encP]) (by simp [maxLen]) fun _ => ?_
      refine o_append (xs := os) (ys := [q]) (by first | rfl | (simp only [List.length_map, List.length_take, List.length_append]; first | rfl | (congr 1; omega))) rfl rfl rfl rfl (fun _ => .inr trivial) (by simp [maxLen]; omega) (by simp; omega) fun S2 s2 => ?_
      refine o_assign ?_
      refine g_end (G.imp (hQ_ .normal _) ?_)
      clear hQ_ Q_
      try refine g_then ?_
      repeat (first | refine g_endt ?_ | refine g_end ?_ | refine g_then ?_ | refine g_in_normal ?_ | refine g_then_ret ?_ | refine g_in_ret ?_ | refine g_then_exit ?_ | refine g_in_exit rfl ?_ | refine g_in_exit_ne (by decide) ?_ | refine g_seq ?_ | refine g_region ?_ | refine g_block ?_ | refine g_ret ?_ | refine g_return_n ?_ | refine g_exit ?_ | refine g_skip ?_)
      repeat (first | refine g_endt ?_ | refine g_end ?_ | refine g_then ?_ | refine g_in_normal ?_ | refine g_then_ret ?_ | refine g_in_ret ?_ | refine g_then_exit ?_ | refine g_in_exit rfl ?_ | refine g_in_exit_ne (by decide) ?_ | refine g_seq ?_ | refine g_region ?_ | refine g_block ?_ | refine g_ret ?_ | refine g_return_n ?_ | refine g_exit ?_ | refine g_skip ?_)
      refine g_hideR fun Q_ hQ_ => ?_
      refine o_move ?_
      refine o_add (c := ((i2 + 1 : Nat) : Int)) rfl rfl (by omega) (by omega) (by omega) ?_
      refine o_assign ?_
      refine g_end (G.imp (hQ_ .normal _) ?_)
      clear hQ_ Q_
      try refine g_then ?_
      repeat (first | refine g_endt ?_ | refine g_end ?_ | refine g_then ?_ | refine g_in_normal ?_ | refine g_then_ret ?_ | refine g_in_ret ?_ | refine g_then_exit ?_ | refine g_in_exit rfl ?_ | refine g_in_exit_ne (by decide) ?_ | refine g_seq ?_ | refine g_region ?_ | refine g_block ?_ | refine g_ret ?_ | refine g_return_n ?_ | refine g_exit ?_ | refine g_skip ?_)
      exact g_meets ⟨(i2 + 1, S2, s2), hin2⟩ (by show ps.length - (i2 + 1) < ps.length - i2; omega) (Sat.mem ⟨rfl, rfl, by rw [hft, List.length_append]; rfl, rfl, trivial⟩) (t := by
        show Take _ [rC r room a ps.length c0, psl encP 16 a ps, psl encP 16 A l, oP S2 s2 ((ps.take (i2 + 1)).filter fun q => !l.any fun p => takesP p q)] _
        rw [hft]; infer_instance)
  first | refine g_seq (g_cond_f rfl (by simp; omega) ?_) | refine g_cond_f rfl (by simp; omega) ?_
  rw [List.take_of_length_le (by omega)] at hol ⊢
  have hout : outP ps l = (ps.filter fun q => !l.any fun p => takesP p q) ++ l.filter fun p => !rejP p := rfl
  generalize (ps.filter fun q => !l.any fun p => takesP p q) = us at hol hout ⊢
  repeat (first | refine g_endt ?_ | refine g_end ?_ | refine g_then ?_ | refine g_in_normal ?_ | refine g_then_ret ?_ | refine g_in_ret ?_ | refine g_then_exit ?_ | refine g_in_exit rfl ?_ | refine g_in_exit_ne (by decide) ?_ | refine g_seq ?_ | refine g_region ?_ | refine g_block ?_ | refine g_ret ?_ | refine g_return_n ?_ | refine g_exit ?_ | refine g_skip ?_)
  refine g_hideR fun Q_ hQ_ => ?_
  refine o_assign ?_
  refine g_end (G.imp (hQ_ .normal _) ?_)
  clear hQ_ Q_
  try refine g_then ?_
  repeat (first | refine g_endt ?_ | refine g_end ?_ | refine g_then ?_ | refine g_in_normal ?_ | refine g_then_ret ?_ | refine g_in_ret ?_ | refine g_then_exit ?_ | refine g_in_exit rfl ?_ | refine g_in_exit_ne (by decide) ?_ | refine g_seq ?_ | refine g_region ?_ | refine g_block ?_ | refine g_ret ?_ | refine g_return_n ?_ | refine g_exit ?_ | refine g_skip ?_)
  refine g_loop (σ := {t : Nat × Option Addr × Nat // t.1 ≤ n}) (S := fun t => [(0, .pointer (some ⟨r, 0, none⟩)), (1, .slice A n c), (6, .slice t.1.2.1 (us ++ (l.take t.1.1).filter fun p => !rejP p).length t.1.2.2), (12, .int .i64 (t.1.1 : Int))])
    (H := fun t => [rC r room a ps.length c0, psl encP 16 a ps, psl encP 16 A l, oP t.1.2.1 t.1.2.2 (us ++ (l.take t.1.1).filter fun p => !rejP p)]) (μ := fun t => n - t.1.1) (s0 := ⟨(0, S, s), Nat.zero_le _⟩) (Sat.mem ⟨rfl, rfl, by simp; rfl, rfl, trivial⟩) (t := by
      show Take _ [rC r room a ps.length c0, psl encP 16 a ps, psl encP 16 A l, oP S s (us ++ [])] _
      rw [List.append_nil]; infer_instance) ?_
  rintro ⟨⟨i3, S3, s3⟩, hi3⟩ ρ4
  dsimp only at hi3 ⊢
  have hfl3 : ((l.take i3).filter fun p => !rejP p).length ≤ i3 := Nat.le_trans (List.length_filter_le _ _) (by simp; omega)
  repeat (first | refine g_endt ?_ | refine g_end ?_ | refine g_then ?_ | refine g_in_normal ?_ | refine g_then_ret ?_ | refine g_in_ret ?_ | refine g_then_exit ?_ | refine g_in_exit rfl ?_ | refine g_in_exit_ne (by decide) ?_ | refine g_seq ?_ | refine g_region ?_ | refine g_block ?_ | refine g_ret ?_ | refine g_return_n ?_ | refine g_exit ?_ | refine g_skip ?_)
  refine g_hideR fun Q_ hQ_ => ?_
  refine o_move ?_
  refine o_move ?_
  refine o_len rfl rfl ?_
  refine o_lss rfl rfl ?_
  refine g_end (G.imp (hQ_ .normal _) ?_)
  clear hQ_ Q_
  try refine g_then ?_
  by_cases hin3 : i3 < n
  · first | refine g_seq (g_cond_t rfl (by first | rfl | (simp; done) | (simp; omega) | (simp; assumption)) ?_) | refine g_cond_t rfl (by first | rfl | (simp; done) | (simp; omega) | (simp; assumption)) ?_
    obtain ⟨x, hx⟩ : ∃ x, l[i3]? = some x := ⟨_, List.getElem?_eq_getElem (by omega)⟩
    have hft := filter_take (fun p => !rejP p) hx
    obtain ⟨rj, hrj⟩ : ∃ rj, rejP x = rj := ⟨_, rfl⟩
    have hrs := rejectsR_spec x
    rw [hrj] at hrs hft
    have hfu : us ++ (l.take (i3 + 1)).filter (fun p => !rejP p) = (us ++ (l.take i3).filter fun p => !rejP p) ++ if (!rj) = true then [x] else [] := by rw [hft, List.append_assoc]
    have hlu : (us ++ (l.take i3).filter fun p => !rejP p).length ≤ 20000 := by rw [List.length_append]; omega
    generalize (us ++ (l.take i3).filter fun p => !rejP p) = os at hfu hlu ⊢
    repeat (first | refine g_endt ?_ | refine g_end ?_ | refine g_then ?_ | refine g_in_normal ?_ | refine g_then_ret ?_ | refine g_in_ret ?_ | refine g_then_exit ?_ | refine g_in_exit rfl ?_ | refine g_in_exit_ne (by decide) ?_ | refine g_seq ?_ | refine g_region ?_ | refine g_block ?_ | refine g_ret ?_ | refine g_return_n ?_ | refine g_exit ?_ | refine g_skip ?_)
    repeat (first | refine g_endt ?_ | refine g_end ?_ | refine g_then ?_ | refine g_in_normal ?_ | refine g_then_ret ?_ | refine g_in_ret ?_ | refine g_then_exit ?_ | refine g_in_exit rfl ?_ | refine g_in_exit_ne (by decide) ?_ | refine g_seq ?_ | refine g_region ?_ | refine g_block ?_ | refine g_ret ?_ | refine g_return_n ?_ | refine g_exit ?_ | refine g_skip ?_)
    refine g_hideR fun Q_ hQ_ => ?_
    refine o_move ?_
    refine o_move ?_
    refine o_indexR (ys := l) (i := i3) rfl rfl rfl (by omega) hl rfl ?_
    refine o_loadE (ys := l) rfl rfl hx ?_
    refine o_call (hrs) rfl rfl ?_
    rintro _ _ ⟨rfl, rfl⟩
    refine o_not rfl ?_
    refine g_end (G.imp (hQ_ .normal _) ?_)
    clear hQ_ Q_
    try refine g_then ?_
    cases rj with
    | true =>
      rw [if_neg (by decide), List.append_nil] at hfu
      first | refine g_seq (g_cond_f rfl (by first | rfl | (simp; done) | (simp; omega) | (simp; assumption)) ?_) | refine g_cond_f rfl (by first | rfl | (simp; done) | (simp; omega) | (simp; assumption)) ?_
      repeat (first | refine g_endt ?_ | refine g_end ?_ | refine g_then ?_ | refine g_in_normal ?_ | refine g_then_ret ?_ | refine g_in_ret ?_ | refine g_then_exit ?_ | refine g_in_exit rfl ?_ | refine g_in_exit_ne (by decide) ?_ | refine g_seq ?_ | refine g_region ?_ | refine g_block ?_ | refine g_ret ?_ | refine g_return_n ?_ | refine g_exit ?_ | refine g_skip ?_)
      repeat (first | refine g_endt ?_ | refine g_end ?_ | refine g_then ?_ | refine g_in_normal ?_ | refine g_then_ret ?_ | refine g_in_ret ?_ | refine g_then_exit ?_ | refine g_in_exit rfl ?_ | refine g_in_exit_ne (by decide) ?_ | refine g_seq ?_ | refine g_region ?_ | refine g_block ?_ | refine g_ret ?_ | refine g_return_n ?_ | refine g_exit ?_ | refine g_skip ?_)
      refine g_hideR fun Q_ hQ_ => ?_
      refine o_move ?_
      refine o_add (c := ((i3 + 1 : Nat) : Int)) rfl rfl (by omega) (by omega) (by omega) ?_
      refine o_assign ?_
      refine g_end (G.imp (hQ_ .normal _) ?_)
      clear hQ_ Q_
      try refine g_then ?_
      repeat (first | refine g_endt ?_ | refine g_end ?_ | refine g_then ?_ | refine g_in_normal ?_ | refine g_then_ret ?_ | refine g_in_ret ?_ | refine g_then_exit ?_ | refine g_in_exit rfl ?_ | refine g_in_exit_ne (by decide) ?_ | refine g_seq ?_ | refine g_region ?_ | refine g_block ?_ | refine g_ret ?_ | refine g_return_n ?_ | refine g_exit ?_ | refine g_skip ?_)
      exact g_meets ⟨(i3 + 1, S3, s3), hin3⟩ (by show n - (i3 + 1) < n - i3; omega) (Sat.mem ⟨rfl, rfl, by rw [hfu]; rfl, rfl, trivial⟩) (t := by
        show Take _ [rC r room a ps.length c0, psl encP 16 a ps, psl encP 16 A l, oP S3 s3 (us ++ (l.take (i3 + 1)).filter fun p => !rejP p)] _
        rw [hfu]; infer_instance)
    | false =>
      rw [if_pos (by decide)] at hfu
      first | refine g_seq (g_cond_t rfl (by first | rfl | (simp; done) | (simp; omega) | (simp; assumption)) ?_) | refine g_cond_t rfl (by first | rfl | (simp; done) | (simp; omega) | (simp; assumption)) ?_
      repeat (first | refine g_endt ?_ | refine g_end ?_ | refine g_then ?_ | refine g_in_normal ?_ | refine g_then_ret ?_ | refine g_in_ret ?_ | refine g_then_exit ?_ | refine g_in_exit rfl ?_ | refine g_in_exit_ne (by decide) ?_ | refine g_seq ?_ | refine g_region ?_ | refine g_block ?_ | refine g_ret ?_ | refine g_return_n ?_ | refine g_exit ?_ | refine g_skip ?_)
      refine g_hideR fun Q_ hQ_ => ?_
      refine o_move ?_
      refine o_move ?_
      refine o_move ?_
      refine o_indexR (ys := l) (i := i3) rfl rfl rfl (by omega) hl rfl ?_
      refine o_loadE (ys := l) rfl rfl hx ?_
      refine o_litP (e := 41) encP [x] (x).val.cells (fun w => by kernel_rfl) (by simp [encP]) (by simp [maxLen]) fun _ => ?_
      refine o_append (xs := os) (ys := [x]) (by first | rfl | (simp only [List.length_map, List.length_take, List.length_append]; first | rfl | (congr 1; omega))) rfl rfl rfl rfl (fun _ => .inr trivial) (by simp [maxLen]; omega) (by simp; omega) fun S2 s2 => ?_
      refine o_assign ?_
      refine g_end (G.imp (hQ_ .normal _) ?_)
      clear hQ_ Q_
      try refine g_then ?_
      repeat (first | refine g_endt ?_ | refine g_end ?_ | refine g_then ?_ | refine g_in_normal ?_ | refine g_then_ret ?_ | refine g_in_ret ?_ | refine g_then_exit ?_ | refine g_in_exit rfl ?_ | refine g_in_exit_ne (by decide) ?_ | refine g_seq ?_ | refine g_region ?_ | refine g_block ?_ | refine g_ret ?_ | refine g_return_n ?_ | refine g_exit ?_ | refine g_skip ?_)
      repeat (first | refine g_endt ?_ | refine g_end ?_ | refine g_then ?_ | refine g_in_normal ?_ | refine g_then_ret ?_ | refine g_in_ret ?_ | refine g_then_exit ?_ | refine g_in_exit rfl ?_ | refine g_in_exit_ne (by decide) ?_ | refine g_seq ?_ | refine g_region ?_ | refine g_block ?_ | refine g_ret ?_ | refine g_return_n ?_ | refine g_exit ?_ | refine g_skip ?_)
      refine g_hideR fun Q_ hQ_ => ?_
      refine o_move ?_
      refine o_add (c := ((i3 + 1 : Nat) : Int)) rfl rfl (by omega) (by omega) (by omega) ?_
      refine o_assign ?_
      refine g_end (G.imp (hQ_ .normal _) ?_)
      clear hQ_ Q_
      try refine g_then ?_
      repeat (first | refine g_endt ?_ | refine g_end ?_ | refine g_then ?_ | refine g_in_normal ?_ | refine g_then_ret ?_ | refine g_in_ret ?_ | refine g_then_exit ?_ | refine g_in_exit rfl ?_ | refine g_in_exit_ne (by decide) ?_ | refine g_seq ?_ | refine g_region ?_ | refine g_block ?_ | refine g_ret ?_ | refine g_return_n ?_ | refine g_exit ?_ | refine g_skip ?_)
      exact g_meets ⟨(i3 + 1, S2, s2), hin3⟩ (by show n - (i3 + 1) < n - i3; omega) (Sat.mem ⟨rfl, rfl, by rw [hfu, List.length_append]; rfl, rfl, trivial⟩) (t := by
        show Take _ [rC r room a ps.length c0, psl encP 16 a ps, psl encP 16 A l, oP S2 s2 (us ++ (l.take (i3 + 1)).filter fun p => !rejP p)] _
        rw [hfu]; infer_instance)
  first | refine g_seq (g_cond_f rfl (by simp; omega) ?_) | refine g_cond_f rfl (by simp; omega) ?_
  rw [List.take_of_length_le (by omega)] at hfl3 ⊢
  have hlen : (outP ps l).length ≤ 20000 := by rw [hout, List.length_append]; omega
  rw [← hout]
  by_cases hov : room < ((outP ps l).length : Int)
  · rw [addR_full hall hov]
    generalize outP ps l = os at hlen hov ⊢
    repeat (first | refine g_endt ?_ | refine g_end ?_ | refine g_then ?_ | refine g_in_normal ?_ | refine g_then_ret ?_ | refine g_in_ret ?_ | refine g_then_exit ?_ | refine g_in_exit rfl ?_ | refine g_in_exit_ne (by decide) ?_ | refine g_seq ?_ | refine g_region ?_ | refine g_block ?_ | refine g_ret ?_ | refine g_return_n ?_ | refine g_exit ?_ | refine g_skip ?_)
    refine g_hideR fun Q_ hQ_ => ?_
    refine o_move ?_
    refine o_len rfl rfl ?_
    refine o_move ?_
    refine o_nil rfl ?_
    first | refine o_field rfl ?_ | refine o_fieldR rfl (by omega) ?_
    refine o_load1 (v := .int .i64 room) rfl rfl ?_
    refine o_gtr rfl rfl ?_
    refine g_end (G.imp (hQ_ .normal _) ?_)
    clear hQ_ Q_
    try refine g_then ?_
    first | refine g_seq (g_cond_t rfl (by simpa using hov) ?_) | refine g_cond_t rfl (by simpa using hov) ?_
    refine shutRM r room ps a c0 rfl ?_
    repeat (first | refine g_endt ?_ | refine g_end ?_ | refine g_then ?_ | refine g_in_normal ?_ | refine g_then_ret ?_ | refine g_in_ret ?_ | refine g_then_exit ?_ | refine g_in_exit rfl ?_ | refine g_in_exit_ne (by decide) ?_ | refine g_seq ?_ | refine g_region ?_ | refine g_block ?_ | refine g_ret ?_ | refine g_return_n ?_ | refine g_exit ?_ | refine g_skip ?_)
    refine g_hideR fun Q_ hQ_ => ?_
    refine o_assign ?_
    refine g_end (G.imp (hQ_ .normal _) ?_)
    clear hQ_ Q_
    try refine g_then ?_
    repeat (first | refine g_endt ?_ | refine g_end ?_ | refine g_then ?_ | refine g_in_normal ?_ | refine g_then_ret ?_ | refine g_in_ret ?_ | refine g_then_exit ?_ | refine g_in_exit rfl ?_ | refine g_in_exit_ne (by decide) ?_ | refine g_seq ?_ | refine g_region ?_ | refine g_block ?_ | refine g_ret ?_ | refine g_return_n ?_ | refine g_exit ?_ | refine g_skip ?_)
    exact ret1 (K := [RefM r room ps]) rfl (resT (v := .int .i64 21) rfl) ⟨rfl, rfl⟩
  · rw [addR_ok hall hov]
    generalize outP ps l = os at hlen hov ⊢
    repeat (first | refine g_endt ?_ | refine g_end ?_ | refine g_then ?_ | refine g_in_normal ?_ | refine g_then_ret ?_ | refine g_in_ret ?_ | refine g_then_exit ?_ | refine g_in_exit rfl ?_ | refine g_in_exit_ne (by decide) ?_ | refine g_seq ?_ | refine g_region ?_ | refine g_block ?_ | refine g_ret ?_ | refine g_return_n ?_ | refine g_exit ?_ | refine g_skip ?_)
    refine g_hideR fun Q_ hQ_ => ?_
    refine o_move ?_
    refine o_len rfl rfl ?_
    refine o_move ?_
    refine o_nil rfl ?_
    first | refine o_field rfl ?_ | refine o_fieldR rfl (by omega) ?_
    refine o_load1 (v := .int .i64 room) rfl rfl ?_
    refine o_gtr rfl rfl ?_
    refine g_end (G.imp (hQ_ .normal _) ?_)
    clear hQ_ Q_
    try refine g_then ?_
    first | refine g_seq (g_cond_f rfl (by simpa using hov) ?_) | refine g_cond_f rfl (by simpa using hov) ?_
    refine G.bring [oP S3 s3 os] (G.frz ?_)
    repeat (first | refine g_endt ?_ | refine g_end ?_ | refine g_then ?_ | refine g_in_normal ?_ | refine g_then_ret ?_ | refine g_in_ret ?_ | refine g_then_exit ?_ | refine g_in_exit rfl ?_ | refine g_in_exit_ne (by decide) ?_ | refine g_seq ?_ | refine g_region ?_ | refine g_block ?_ | refine g_ret ?_ | refine g_return_n ?_ | refine g_exit ?_ | refine g_skip ?_)
    repeat (first | refine g_endt ?_ | refine g_end ?_ | refine g_then ?_ | refine g_in_normal ?_ | refine g_then_ret ?_ | refine g_in_ret ?_ | refine g_then_exit ?_ | refine g_in_exit rfl ?_ | refine g_in_exit_ne (by decide) ?_ | refine g_seq ?_ | refine g_region ?_ | refine g_block ?_ | refine g_ret ?_ | refine g_return_n ?_ | refine g_exit ?_ | refine g_skip ?_)
    refine g_hideR fun Q_ hQ_ => ?_
    refine o_move ?_
    refine o_move ?_
    refine o_nil rfl ?_
    first | refine o_field rfl ?_ | refine o_fieldR rfl (by omega) ?_
    refine o_store (v := .slice S3 os.length s3) rfl rfl rfl rfl rfl ?_
    refine g_end (G.imp (hQ_ .normal _) ?_)
    clear hQ_ Q_
    try refine g_then ?_
    refine G.norm r #[.int .i64 room, .slice S3 os.length s3] rfl ?_
    refine shutRM r room os S3 s3 rfl ?_
    repeat (first | refine g_endt ?_ | refine g_end ?_ | refine g_then ?_ | refine g_in_normal ?_ | refine g_then_ret ?_ | refine g_in_ret ?_ | refine g_then_exit ?_ | refine g_in_exit rfl ?_ | refine g_in_exit_ne (by decide) ?_ | refine g_seq ?_ | refine g_region ?_ | refine g_block ?_ | refine g_ret ?_ | refine g_return_n ?_ | refine g_exit ?_ | refine g_skip ?_)
    refine g_hideR fun Q_ hQ_ => ?_
    refine o_assign ?_
    refine g_end (G.imp (hQ_ .normal _) ?_)
    clear hQ_ Q_
    try refine g_then ?_
    repeat (first | refine g_endt ?_ | refine g_end ?_ | refine g_then ?_ | refine g_in_normal ?_ | refine g_then_ret ?_ | refine g_in_ret ?_ | refine g_then_exit ?_ | refine g_in_exit rfl ?_ | refine g_in_exit_ne (by decide) ?_ | refine g_seq ?_ | refine g_region ?_ | refine g_block ?_ | refine g_ret ?_ | refine g_return_n ?_ | refine g_exit ?_ | refine g_skip ?_)
    exact ret1 (K := [RefM r room os]) rfl (resT (v := .int .i64 0) rfl) ⟨rfl, rfl⟩
end Go.Proofs.YtonaccfoelgpnaaGreat
/- The document's preference memory asked: the walks. -/
namespace Go.Proofs.YtonaccfoelgpnaaGreat
open Go Go.Sl
attribute [local irreducible] Exit.then Exit.inBlock Code.wpIn roundPost bodyPostM runL Ret Meets MeetsD Begin

/-! ### Elems -/
def rejD (ps : List PrefD) (p : PrefD) : Bool := ps.any fun q => decide (q.kind = 2) && (q.id.beq p.id && (q.attr.beq p.attr && q.value.beq p.value))
def refQ (ps : List PrefD) (p : PrefD) : Bool := (decide (p.kind = 1) && (!p.slot && !rejD ps p)) || (p.slot && (decide (p.kind = 1) || decide (p.kind = 3)))
def refE (ps : List PrefD) : List ElemD := sortE ((ps.filter (refQ ps)).map eOf)
/-! ### Cause -/
end Go.Proofs.YtonaccfoelgpnaaGreat
/- What preferences support: both ways of telling it are one. Plain law. -/
namespace Go.Proofs.YtonaccfoelgpnaaGreat
open Go Go.Sl

theorem has_sortP (l : List ElemD) (z : ElemD) : hasC ElemD.cmp (sortE l) z = hasC ElemD.cmp l z := by
  unfold sortE; rw [hasC_fold linElem]; rfl
theorem mem_sortP {l : List ElemD} : ∀ x ∈ sortE l, x ∈ l := by
  have : ∀ (l a : List ElemD) (x : ElemD), x ∈ l.foldl (insC ElemD.cmp) a → x ∈ a ∨ x ∈ l := by
    intro l
    induction l with
    | nil => exact fun a x h => .inl h
    | cons y l ih =>
      intro a x h
      rcases ih _ x h with h | h
      · rcases mem_insC.1 h with h | ⟨_, rfl⟩
        · exact .inl h
        · exact .inr List.mem_cons_self
      · exact .inr (List.mem_cons_of_mem _ h)
  intro x h
  rcases this l [] x h with h | h
  · cases h
  · exact h
theorem eOf_cmp {p q : PrefD} (h : (eOf p).cmp (eOf q) = 0) : eOf p = eOf q := by
  obtain ⟨h1, h2, h3, h4⟩ := ElemD.cmp_iff.1 h
  unfold eOf at *
  dsimp only at h1 h2 h3 h4
  rw [h1, h2, h3, h4]
theorem mem_sel {f : PrefD → Bool} {ws : List PrefD} {e : ElemD} : e ∈ sortE ((ws.filter f).map eOf) ↔ ∃ p ∈ ws, f p = true ∧ eOf p = e := by
  constructor
  · intro h
    obtain ⟨p, hp, rfl⟩ := List.mem_map.1 (mem_sortP e h)
    obtain ⟨h1, h2⟩ := List.mem_filter.1 hp
    exact ⟨p, h1, h2, rfl⟩
  · rintro ⟨p, hp, hf, rfl⟩
    have h1 : hasC ElemD.cmp (sortE ((ws.filter f).map eOf)) (eOf p) = true := by
      rw [has_sortP]
      exact List.any_eq_true.2 ⟨eOf p, List.mem_map.2 ⟨p, List.mem_filter.2 ⟨hp, hf⟩, rfl⟩, decide_eq_true (linElem.refl _)⟩
    obtain ⟨y, hy, hc⟩ := List.any_eq_true.1 h1
    obtain ⟨q, _, rfl⟩ := List.mem_map.1 (mem_sortP y hy)
    rw [← eOf_cmp (of_decide_eq_true hc)]; exact hy
theorem mem_slotL {ps : List PrefD} {k : SlotD} {p : PrefD} : p ∈ slotL ps k ↔ p ∈ ps ∧ slotOf p = k := by
  unfold slotL
  rw [List.mem_filter, decide_eq_true_iff, SlotD.cmp_iff]
theorem slot_same {p q : PrefD} (h : slotOf p = slotOf q) : p.id = q.id ∧ p.attr = q.attr ∧ p.slot = q.slot := by
  unfold slotOf at h
  injection h with h1 h2
  exact ⟨h1, h2, by unfold PrefD.slot; rw [h2]⟩
theorem out_rej {ps : List PrefD} {p : PrefD} (hs : p.slot = false) : hasC ElemD.cmp (outE (slotL ps (slotOf p))) (eOf p) = rejD ps p := by
  rw [Bool.eq_iff_iff]
  unfold outE
  rw [has_sortP]
  unfold hasC rejD
  rw [List.any_eq_true, List.any_eq_true]
  constructor
  · rintro ⟨e, he, hc⟩
    obtain ⟨q, hq, rfl⟩ := List.mem_map.1 he
    obtain ⟨h1, h2⟩ := List.mem_filter.1 hq
    obtain ⟨h3, h4⟩ := mem_slotL.1 h1
    have h5 := ElemD.cmp_iff.1 (of_decide_eq_true hc)
    unfold outQ at h2
    rw [Bool.and_eq_true] at h2
    refine ⟨q, h3, ?_⟩
    rw [h2.2, Bool.true_and, Bool.and_eq_true, Bool.and_eq_true, SymD.beq_iff, SymD.beq_iff, SymD.beq_iff]
    exact ⟨h5.1, h5.2.1, h5.2.2.1⟩
  · rintro ⟨q, hq, h⟩
    rw [Bool.and_eq_true, Bool.and_eq_true, Bool.and_eq_true, SymD.beq_iff, SymD.beq_iff, SymD.beq_iff] at h
    obtain ⟨h1, h2, h3, h4⟩ := h
    have hqs : q.slot = false := by unfold PrefD.slot at hs ⊢; rw [h3]; exact hs
    refine ⟨eOf q, List.mem_map.2 ⟨q, List.mem_filter.2 ⟨mem_slotL.2 ⟨hq, by unfold slotOf; rw [h2, h3]⟩, by unfold outQ; rw [hqs, h1]; rfl⟩, rfl⟩, decide_eq_true (ElemD.cmp_iff.2 ⟨h2, h3, h4, ?_⟩)⟩
    show q.slot = p.slot
    rw [hqs, hs]
theorem out_slot {ps : List PrefD} {p : PrefD} (hs : p.slot = true) : hasC ElemD.cmp (outE (slotL ps (slotOf p))) (eOf p) = false := by
  unfold outE
  rw [has_sortP]
  unfold hasC
  rw [List.any_eq_false]
  intro e he hc
  obtain ⟨q, hq, rfl⟩ := List.mem_map.1 he
  obtain ⟨h1, h2⟩ := List.mem_filter.1 hq
  obtain ⟨h3, h4⟩ := mem_slotL.1 h1
  have := (slot_same h4).2.2
  unfold outQ at h2
  rw [this, hs] at h2; cases h2
theorem mem_esl {ps : List PrefD} {k : SlotD} {e : ElemD} : e ∈ esl (slotL ps k) ↔ ∃ p ∈ ps, slotOf p = k ∧ refQ ps p = true ∧ eOf p = e := by
  unfold esl
  rw [List.mem_filter]
  unfold inE
  rw [mem_sel]
  have key : ∀ p : PrefD, (inQ p = true ∧ (!hasC ElemD.cmp (outE (slotL ps (slotOf p))) (eOf p)) = true) ↔ refQ ps p = true := fun p => by
    unfold inQ refQ
    cases hs : p.slot with
    | true => rw [out_slot hs]; simp
    | false => rw [out_rej hs]; simp
  constructor
  · rintro ⟨⟨p, hp, h1, rfl⟩, h2⟩
    obtain ⟨h3, rfl⟩ := mem_slotL.1 hp
    exact ⟨p, h3, rfl, (key p).1 ⟨h1, h2⟩, rfl⟩
  · rintro ⟨p, hp, rfl, h1, rfl⟩
    obtain ⟨h2, h3⟩ := (key p).2 h1
    exact ⟨⟨p, mem_slotL.2 ⟨hp, rfl⟩, h2, rfl⟩, h3⟩
theorem cmp_slots {e f : ElemD} (h : SlotD.cmp ⟨e.id, e.attr⟩ ⟨f.id, f.attr⟩ < 0) : e.cmp f < 0 := by
  simp only [SlotD.cmp, ElemD.cmp, lex] at h ⊢
  by_cases h1 : e.id.cmp f.id = 0
  · rw [if_pos h1] at h ⊢
    rw [if_neg (by omega)]; exact h
  · rw [if_neg h1] at h ⊢; exact h
theorem srt_append {xs ys : List ElemD} (hx : Srt ElemD.cmp xs) (hy : Srt ElemD.cmp ys) (h : ∀ x ∈ xs, ∀ y ∈ ys, x.cmp y < 0) : Srt ElemD.cmp (xs ++ ys) := by
  induction xs with
  | nil => exact hy
  | cons a xs ih =>
    refine Srt.cons (fun z hz => ?_) (ih hx.tail fun x hx' y hy' => h x (List.mem_cons_of_mem _ hx') y hy')
    rcases List.mem_append.1 hz with hz | hz
    · exact hx.head z hz
    · exact h a List.mem_cons_self z hz
theorem allE_srt (ps : List PrefD) : ∀ (zs : List PgSP), Srt PgSP.cmp zs → Srt ElemD.cmp (allE ps zs)
  | [], _ => Srt.nil
  | z :: zs, hs => by
    show Srt ElemD.cmp (esl (slotL ps z.k) ++ allE ps zs)
    refine srt_append ((sel_srt _).filter _) (allE_srt ps zs hs.tail) fun x hx y hy => ?_
    obtain ⟨p, _, hk, _, rfl⟩ := mem_esl.1 hx
    unfold allE at hy
    obtain ⟨z2, hz2, hy2⟩ := List.mem_flatMap.1 hy
    obtain ⟨q, _, hk2, _, rfl⟩ := mem_esl.1 hy2
    refine cmp_slots ?_
    show SlotD.cmp (slotOf p) (slotOf q) < 0
    rw [hk, hk2]; exact hs.head z2 hz2
theorem allE_ref {ps : List PrefD} (zs : List PgSP) (hI : SlI zs ps) : allE ps zs = refE ps := by
  refine (allE_srt ps zs hI.srt).ext linElem (sel_srt _) fun e => ?_
  unfold allE refE
  rw [List.mem_flatMap, mem_sel]
  constructor
  · rintro ⟨z, _, h⟩
    obtain ⟨p, hp, _, h1, h2⟩ := mem_esl.1 h
    exact ⟨p, hp, h1, h2⟩
  · rintro ⟨p, hp, h1, h2⟩
    have hne : slotL ps (slotOf p) ≠ [] := List.ne_nil_of_mem (mem_slotL.2 ⟨hp, rfl⟩)
    obtain ⟨z, hz, hk⟩ := hasSP.1 ((hI.has (slotOf p)).2 hne)
    exact ⟨z, hz, mem_esl.2 ⟨p, hp, hk.symm, h1, h2⟩⟩
theorem refE_len (ps : List PrefD) : (refE ps).length ≤ ps.length := sel_len _ _
/-- What is supported, told. -/
theorem elems_iter (m : Nat) (room : Int) (ps : List PrefD) (hp : ps.length ≤ 90000) (b1 : Nat) {es : List ElemD} (he : refE ps = es) (J0 : List SProp) {M : List SProp} [tk : Take1 J0 (MemP m room ps) M] [HasP J0 (pM b1 m)] :
    Iter Tryz.prog 41 [.pointer (some ⟨b1, 0, none⟩)] encVE es J0 := Elems1_iter0 m room ps hp b1 es (fun zs hI => (allE_ref zs hI).trans he) J0
end Go.Proofs.YtonaccfoelgpnaaGreat
/- What is told, as a list. -/
namespace Go.Proofs.YtonaccfoelgpnaaGreat
open Go Go.Sl
attribute [local irreducible] Code.wpIn roundPost bodyPostM runL Ret Meets Begin

theorem ListE_spec (gf : FuncId) (lb : List Value) (xs : List ElemD) {n : Nat} (hn : xs.length = n) (hl : n ≤ 100000) (Ks : List SProp) [En Tryz.prog gf] (hit : ∀ K, Iter Tryz.prog gf lb encVE xs (K ++ Ks)) :
    Ctr Tryz.prog 17 [.func (.func gf) #[] lb.toArray] Ks (fun v M => ∃ S c, v = .slice S n c ∧ M = osl 58 encE 12 S c xs :: Ks) := by
  refine spec_of Tryz.func17 rfl Tryz.ntmps17 rfl fun w0 F => ?_
  subst hn
  -- ponder/ponderkeep.List[ponder/api.Elem]
  repeat (first | refine g_endt ?_ | refine g_end ?_ | refine g_then ?_ | refine g_in_normal ?_ | refine g_then_ret ?_ | refine g_in_ret ?_ | refine g_then_exit ?_ | refine g_in_exit rfl ?_ | refine g_in_exit_ne (by decide) ?_ | refine g_seq ?_ | refine g_region ?_ | refine g_block ?_ | refine g_ret ?_ | refine g_return_n ?_ | refine g_exit ?_ | refine g_skip ?_)
  refine o_assign ?_
  first | refine g_endt ?_ | refine g_end ?_
  repeat (first | refine g_endt ?_ | refine g_end ?_ | refine g_then ?_ | refine g_in_normal ?_ | refine g_then_ret ?_ | refine g_in_ret ?_ | refine g_then_exit ?_ | refine g_in_exit rfl ?_ | refine g_in_exit_ne (by decide) ?_ | refine g_seq ?_ | refine g_region ?_ | refine g_block ?_ | refine g_ret ?_ | refine g_return_n ?_ | refine g_exit ?_ | refine g_skip ?_)
  refine o_alloc fun p => ?_
  first | refine g_endt ?_ | refine g_end ?_
  repeat (first | refine g_endt ?_ | refine g_end ?_ | refine g_then ?_ | refine g_in_normal ?_ | refine g_then_ret ?_ | refine g_in_ret ?_ | refine g_then_exit ?_ | refine g_in_exit rfl ?_ | refine g_in_exit_ne (by decide) ?_ | refine g_seq ?_ | refine g_region ?_ | refine g_block ?_ | refine g_ret ?_ | refine g_return_n ?_ | refine g_exit ?_ | refine g_skip ?_)
  refine o_move ?_
  refine o_fnil rfl (fun w => by kernel_rfl) (fun w => by kernel_rfl) ?_
  first | refine g_endt ?_ | refine g_end ?_
  first | refine g_seq (g_cond_f rfl (by first | rfl | (simp; done) | (simp; omega) | (simp; assumption)) ?_) | refine g_cond_f rfl (by first | rfl | (simp; done) | (simp; omega) | (simp; assumption)) ?_
  repeat (first | refine g_endt ?_ | refine g_end ?_ | refine g_then ?_ | refine g_in_normal ?_ | refine g_then_ret ?_ | refine g_in_ret ?_ | refine g_then_exit ?_ | refine g_in_exit rfl ?_ | refine g_in_exit_ne (by decide) ?_ | refine g_seq ?_ | refine g_region ?_ | refine g_block ?_ | refine g_ret ?_ | refine g_return_n ?_ | refine g_exit ?_ | refine g_skip ?_)
  refine o_move ?_
  first | refine g_endt ?_ | refine g_end ?_
  repeat (first | refine g_endt ?_ | refine g_end ?_ | refine g_then ?_ | refine g_in_normal ?_ | refine g_then_ret ?_ | refine g_in_ret ?_ | refine g_then_exit ?_ | refine g_in_exit rfl ?_ | refine g_in_exit_ne (by decide) ?_ | refine g_seq ?_ | refine g_region ?_ | refine g_block ?_ | refine g_ret ?_ | refine g_return_n ?_ | refine g_exit ?_ | refine g_skip ?_)
  refine G.norm p #[.slice none 0 0] rfl ?_
  refine newGE p ?_
  refine g_range (ps := [8]) (enc := encVE) (xs := xs) rfl (fun pre => [GrowE p pre] ++ Ks) (fun _ _ => [pu False]) (fun K => hit [K, GrowE p []]) (fun _ => rfl) ?_ ?_ ?_
  · intro w0 F l r pre x hp
    have hlen : pre.length < xs.length := by
      obtain ⟨t, ht⟩ := hp
      have := congrArg List.length ht
      simp at this
      omega
    refine openGE p pre fun S e => ?_
    repeat (first | refine g_endt ?_ | refine g_end ?_ | refine g_then ?_ | refine g_in_normal ?_ | refine g_then_ret ?_ | refine g_in_ret ?_ | refine g_then_exit ?_ | refine g_in_exit rfl ?_ | refine g_in_exit_ne (by decide) ?_ | refine g_seq ?_ | refine g_region ?_ | refine g_block ?_ | refine g_ret ?_ | refine g_return_n ?_ | refine g_exit ?_ | refine g_skip ?_)
    refine o_alloc fun c => ?_
    refine o_store (v := ElemD.val x) rfl rfl rfl rfl rfl ?_
    first | refine g_endt ?_ | refine g_end ?_
    refine G.norm c (ElemD.val x).cells rfl ?_
    repeat (first | refine g_endt ?_ | refine g_end ?_ | refine g_then ?_ | refine g_in_normal ?_ | refine g_then_ret ?_ | refine g_in_ret ?_ | refine g_then_exit ?_ | refine g_in_exit rfl ?_ | refine g_in_exit_ne (by decide) ?_ | refine g_seq ?_ | refine g_region ?_ | refine g_block ?_ | refine g_ret ?_ | refine g_return_n ?_ | refine g_exit ?_ | refine g_skip ?_)
    refine g_begin ?_
    repeat (first | refine g_endt ?_ | refine g_end ?_ | refine g_then ?_ | refine g_in_normal ?_ | refine g_then_ret ?_ | refine g_in_ret ?_ | refine g_then_exit ?_ | refine g_in_exit rfl ?_ | refine g_in_exit_ne (by decide) ?_ | refine g_seq ?_ | refine g_region ?_ | refine g_block ?_ | refine g_ret ?_ | refine g_return_n ?_ | refine g_exit ?_ | refine g_skip ?_)
    first | refine o_load1 rfl rfl ?_ | refine o_loadE0 rfl (by assumption) rfl ?_ | refine o_loadE1 rfl (by assumption) rfl ?_
    refine o_loadN (v := ElemD.val x) rfl rfl rfl ?_
    refine o_litP (e := 58) encE [x] (ElemD.val x).cells (fun w => by kernel_rfl) (by simp [encE]) (by simp [maxLen]) fun _ => ?_
    refine o_append (xs := pre) (ys := [x]) (by first | rfl | (simp only [List.length_map, List.length_take, List.length_append]; first | rfl | (congr 1; omega))) rfl rfl rfl rfl (fun _ => .inr trivial) (by simp [maxLen]; omega) (by simp; omega) fun S2 e2 => ?_
    refine o_store (v := .slice S2 (pre.length + 1) e2) rfl rfl rfl rfl rfl ?_
    first | refine g_endt ?_ | refine g_end ?_
    refine G.norm p #[.slice S2 (pre.length + 1) e2] rfl ?_
    refine shutGE p (pre ++ [x]) S2 e2 (n := pre.length + 1) (by simp) ?_
    repeat (first | refine g_endt ?_ | refine g_end ?_ | refine g_then ?_ | refine g_in_normal ?_ | refine g_then_ret ?_ | refine g_in_ret ?_ | refine g_then_exit ?_ | refine g_in_exit rfl ?_ | refine g_in_exit_ne (by decide) ?_ | refine g_seq ?_ | refine g_region ?_ | refine g_block ?_ | refine g_ret ?_ | refine g_return_n ?_ | refine g_exit ?_ | refine g_skip ?_)
    exact g_next
  · intro D
    refine openGE p xs fun S e => ?_
    repeat (first | refine g_endt ?_ | refine g_end ?_ | refine g_then ?_ | refine g_in_normal ?_ | refine g_then_ret ?_ | refine g_in_ret ?_ | refine g_then_exit ?_ | refine g_in_exit rfl ?_ | refine g_in_exit_ne (by decide) ?_ | refine g_seq ?_ | refine g_region ?_ | refine g_block ?_ | refine g_ret ?_ | refine g_return_n ?_ | refine g_exit ?_ | refine g_skip ?_)
    first | refine o_load1 rfl rfl ?_ | refine o_loadE0 rfl (by assumption) rfl ?_ | refine o_loadE1 rfl (by assumption) rfl ?_
    refine o_assign ?_
    first | refine g_endt ?_ | refine g_end ?_
    repeat (first | refine g_endt ?_ | refine g_end ?_ | refine g_then ?_ | refine g_in_normal ?_ | refine g_then_ret ?_ | refine g_in_ret ?_ | refine g_then_exit ?_ | refine g_in_exit rfl ?_ | refine g_in_exit_ne (by decide) ?_ | refine g_seq ?_ | refine g_region ?_ | refine g_block ?_ | refine g_ret ?_ | refine g_return_n ?_ | refine g_exit ?_ | refine g_skip ?_)
    exact ret1 (K := osl 58 encE 12 S e xs :: Ks) rfl (resT rfl) ⟨S, e, rfl, rfl⟩
  · intro D c pre hp
    exact G.pu fun h => h.elim
end Go.Proofs.YtonaccfoelgpnaaGreat
/- 's[j:k]'. Plain library, no program in sight. -/
namespace Go.Sl
open Go Go.Proofs
section
variable {w0 : World} {A : SProp} {L : List SProp} {ro : Option Nat} {P : Program} {Q : Exit → Act → World → Prop} {all : Array Oper} {os : List Oper} {n : Nat} {ρ : Nat → Value} {ds : List Nat} {d : Option Tmp} {ty : TypeId} {pos : String} {af : Array Edge} {x y z : Operand} {S : Option Addr}
end
end Go.Sl
/- Helps of the laws on preferences: light ones, one for a value, the example, memories made. -/
namespace Go.Proofs.YtonaccfoelgpnaaGreat
open Go Go.Sl
attribute [local irreducible] Exit.then Exit.inBlock Code.wpIn roundPost bodyPostM runL Ret Meets MeetsD Begin

def shortP (p : PrefD) : Bool := decide (p.id.text.size ≤ 100) && (decide (p.attr.text.size ≤ 100) && (decide (p.value.text.size ≤ 100) && decide (p.other.text.size ≤ 100)))
def lightP (ps : List PrefD) (most : Nat) : Bool := decide (ps.length ≤ most) && ps.all shortP
theorem shortP_small {p : PrefD} (h : shortP p = true) : p.small := by
  unfold shortP at h
  simp only [Bool.and_eq_true, decide_eq_true_eq] at h
  unfold PrefD.small; omega
theorem lightP_yes {ps : List PrefD} {most : Nat} (h : lightP ps most = true) : ps.length ≤ most ∧ ∀ p ∈ ps, p.small := by
  unfold lightP at h
  rw [Bool.and_eq_true, decide_eq_true_iff, List.all_eq_true] at h
  exact ⟨h.1, fun p hp => shortP_small (h.2 p hp)⟩
set_option maxHeartbeats 2000000 in
theorem light17_spec (A : Option Addr) (n c : Nat) (ps : List PrefD) (most : Nat) (hl : ps.length = n) (hm : n ≤ 9223372036854775807) {b : Bool} (hb : lightP ps most = b) : Ctr Tryz.prog 22 [.slice A n c, .int .i64 (most : Int)] [psl encP 16 A ps] (fun v M => v = .bool b ∧ M = []) := by
  refine spec_of Tryz.func22 rfl Tryz.ntmps22 rfl fun w0 F => ?_
  -- hide
  -- ponder/ponderlaw17.light
  subst hb
  repeat (first | refine g_endt ?_ | refine g_end ?_ | refine g_then ?_ | refine g_in_normal ?_ | refine g_then_ret ?_ | refine g_in_ret ?_ | refine g_then_exit ?_ | refine g_in_exit rfl ?_ | refine g_in_exit_ne (by decide) ?_ | refine g_seq ?_ | refine g_region ?_ | refine g_block ?_ | refine g_ret ?_ | refine g_return_n ?_ | refine g_exit ?_ | refine g_skip ?_)
  refine g_hideR fun Q_ hQ_ => ?_
  refine o_assign ?_
  refine g_end (G.imp (hQ_ .normal _) ?_)
  clear hQ_ Q_
  try refine g_then ?_
  by_cases h1 : most < n
  · skip
    repeat (first | refine g_endt ?_ | refine g_end ?_ | refine g_then ?_ | refine g_in_normal ?_ | refine g_then_ret ?_ | refine g_in_ret ?_ | refine g_then_exit ?_ | refine g_in_exit rfl ?_ | refine g_in_exit_ne (by decide) ?_ | refine g_seq ?_ | refine g_region ?_ | refine g_block ?_ | refine g_ret ?_ | refine g_return_n ?_ | refine g_exit ?_ | refine g_skip ?_)
    refine g_hideR fun Q_ hQ_ => ?_
    refine o_move ?_
    refine o_len rfl rfl ?_
    refine o_move ?_
    refine o_gtr rfl rfl ?_
    refine g_end (G.imp (hQ_ .normal _) ?_)
    clear hQ_ Q_
    try refine g_then ?_
    first | refine g_seq (g_cond_t rfl (by simp; omega) ?_) | refine g_cond_t rfl (by simp; omega) ?_
    repeat (first | refine g_endt ?_ | refine g_end ?_ | refine g_then ?_ | refine g_in_normal ?_ | refine g_then_ret ?_ | refine g_in_ret ?_ | refine g_then_exit ?_ | refine g_in_exit rfl ?_ | refine g_in_exit_ne (by decide) ?_ | refine g_seq ?_ | refine g_region ?_ | refine g_block ?_ | refine g_ret ?_ | refine g_return_n ?_ | refine g_exit ?_ | refine g_skip ?_)
    refine g_hideR fun Q_ hQ_ => ?_
    refine o_assign ?_
    refine g_end (G.imp (hQ_ .normal _) ?_)
    clear hQ_ Q_
    try refine g_then ?_
    repeat (first | refine g_endt ?_ | refine g_end ?_ | refine g_then ?_ | refine g_in_normal ?_ | refine g_then_ret ?_ | refine g_in_ret ?_ | refine g_then_exit ?_ | refine g_in_exit rfl ?_ | refine g_in_exit_ne (by decide) ?_ | refine g_seq ?_ | refine g_region ?_ | refine g_block ?_ | refine g_ret ?_ | refine g_return_n ?_ | refine g_exit ?_ | refine g_skip ?_)
    have : lightP ps most = false := by unfold lightP; rw [decide_eq_false (by omega)]; rfl
    exact ret1 (K := []) rfl (resT (v := .bool false) rfl) ⟨by rw [this], rfl⟩
  repeat (first | refine g_endt ?_ | refine g_end ?_ | refine g_then ?_ | refine g_in_normal ?_ | refine g_then_ret ?_ | refine g_in_ret ?_ | refine g_then_exit ?_ | refine g_in_exit rfl ?_ | refine g_in_exit_ne (by decide) ?_ | refine g_seq ?_ | refine g_region ?_ | refine g_block ?_ | refine g_ret ?_ | refine g_return_n ?_ | refine g_exit ?_ | refine g_skip ?_)
  refine g_hideR fun Q_ hQ_ => ?_
  refine o_move ?_
  refine o_len rfl rfl ?_
  refine o_move ?_
  refine o_gtr rfl rfl ?_
  refine g_end (G.imp (hQ_ .normal _) ?_)
  clear hQ_ Q_
  try refine g_then ?_
  first | refine g_seq (g_cond_f rfl (by simp; omega) ?_) | refine g_cond_f rfl (by simp; omega) ?_
  repeat (first | refine g_endt ?_ | refine g_end ?_ | refine g_then ?_ | refine g_in_normal ?_ | refine g_then_ret ?_ | refine g_in_ret ?_ | refine g_then_exit ?_ | refine g_in_exit rfl ?_ | refine g_in_exit_ne (by decide) ?_ | refine g_seq ?_ | refine g_region ?_ | refine g_block ?_ | refine g_ret ?_ | refine g_return_n ?_ | refine g_exit ?_ | refine g_skip ?_)
  refine g_hideR fun Q_ hQ_ => ?_
  refine o_assign ?_
  refine g_end (G.imp (hQ_ .normal _) ?_)
  clear hQ_ Q_
  try refine g_then ?_
  repeat (first | refine g_endt ?_ | refine g_end ?_ | refine g_then ?_ | refine g_in_normal ?_ | refine g_then_ret ?_ | refine g_in_ret ?_ | refine g_then_exit ?_ | refine g_in_exit rfl ?_ | refine g_in_exit_ne (by decide) ?_ | refine g_seq ?_ | refine g_region ?_ | refine g_block ?_ | refine g_ret ?_ | refine g_return_n ?_ | refine g_exit ?_ | refine g_skip ?_)
  refine g_loop (σ := {i : Nat // i ≤ n ∧ (ps.take i).all shortP = true}) (S := fun i => [(0, .slice A n c), (5, .int .i64 (i.1 : Int))]) (H := fun _ => [psl encP 16 A ps]) (μ := fun i => n - i.1) (s0 := ⟨0, Nat.zero_le _, rfl⟩) (Sat.mem ⟨rfl, rfl, trivial⟩) ?_
  rintro ⟨i, hi, hall⟩ ρ'
  dsimp only at hi hall ⊢
  repeat (first | refine g_endt ?_ | refine g_end ?_ | refine g_then ?_ | refine g_in_normal ?_ | refine g_then_ret ?_ | refine g_in_ret ?_ | refine g_then_exit ?_ | refine g_in_exit rfl ?_ | refine g_in_exit_ne (by decide) ?_ | refine g_seq ?_ | refine g_region ?_ | refine g_block ?_ | refine g_ret ?_ | refine g_return_n ?_ | refine g_exit ?_ | refine g_skip ?_)
  refine g_hideR fun Q_ hQ_ => ?_
  refine o_move ?_
  refine o_move ?_
  refine o_len rfl rfl ?_
  refine o_lss rfl rfl ?_
  refine g_end (G.imp (hQ_ .normal _) ?_)
  clear hQ_ Q_
  try refine g_then ?_
  by_cases hin : i < n
  · first | refine g_seq (g_cond_t rfl (by first | rfl | (simp; done) | (simp; omega) | (simp; assumption)) ?_) | refine g_cond_t rfl (by first | rfl | (simp; done) | (simp; omega) | (simp; assumption)) ?_
    obtain ⟨p, hp⟩ : ∃ p, ps[i]? = some p := ⟨_, List.getElem?_eq_getElem (by omega)⟩
    repeat (first | refine g_endt ?_ | refine g_end ?_ | refine g_then ?_ | refine g_in_normal ?_ | refine g_then_ret ?_ | refine g_in_ret ?_ | refine g_then_exit ?_ | refine g_in_exit rfl ?_ | refine g_in_exit_ne (by decide) ?_ | refine g_seq ?_ | refine g_region ?_ | refine g_block ?_ | refine g_ret ?_ | refine g_return_n ?_ | refine g_exit ?_ | refine g_skip ?_)
    repeat (first | refine g_endt ?_ | refine g_end ?_ | refine g_then ?_ | refine g_in_normal ?_ | refine g_then_ret ?_ | refine g_in_ret ?_ | refine g_then_exit ?_ | refine g_in_exit rfl ?_ | refine g_in_exit_ne (by decide) ?_ | refine g_seq ?_ | refine g_region ?_ | refine g_block ?_ | refine g_ret ?_ | refine g_return_n ?_ | refine g_exit ?_ | refine g_skip ?_)
    refine g_hideR fun Q_ hQ_ => ?_
    refine o_move ?_
    refine o_move ?_
    refine o_indexR (ys := ps) (i := i) rfl rfl rfl (by omega) hl rfl ?_
    refine o_loadE (ys := ps) rfl rfl hp ?_
    refine o_alloc fun c6 => ?_
    refine o_store (v := p.val) rfl rfl rfl rfl rfl ?_
    refine g_end (G.imp (hQ_ .normal _) ?_)
    clear hQ_ Q_
    try refine g_then ?_
    refine G.norm c6 p.val.cells rfl ?_
    repeat (first | refine g_endt ?_ | refine g_end ?_ | refine g_then ?_ | refine g_in_normal ?_ | refine g_then_ret ?_ | refine g_in_ret ?_ | refine g_then_exit ?_ | refine g_in_exit rfl ?_ | refine g_in_exit_ne (by decide) ?_ | refine g_seq ?_ | refine g_block ?_ | refine g_ret ?_ | refine g_return_n ?_ | refine g_exit ?_ | refine g_skip ?_)
    refine g_cutk (σ := Bool) (ds' := []) (S := fun t => [(0, .slice A n c), (5, .int .i64 (i : Int)), (46, .bool t)]) (H := fun _ => [psl encP 16 A ps]) (ok := fun t => t = !shortP p) ?_ ?_
    · skip
      repeat (first | refine g_endt ?_ | refine g_end ?_ | refine g_then ?_ | refine g_in_normal ?_ | refine g_then_ret ?_ | refine g_in_ret ?_ | refine g_then_exit ?_ | refine g_in_exit rfl ?_ | refine g_in_exit_ne (by decide) ?_ | refine g_seq ?_ | refine g_region ?_ | refine g_block ?_ | refine g_ret ?_ | refine g_return_n ?_ | refine g_exit ?_ | refine g_skip ?_)
      first | refine o_field rfl ?_ | refine o_fieldR rfl (by omega) ?_
      first | refine o_field rfl ?_ | refine o_fieldR rfl (by omega) ?_
      refine o_load1 (v := .string p.id.text) rfl rfl ?_
      refine o_slen rfl rfl (by kernel_rfl) ?_
      refine o_gtr rfl rfl ?_
      refine o_moveB rfl (fun h5 => ?_) (fun h5 => ?_)
      · refine o_unwanted rfl rfl rfl rfl rfl ?_
        refine o_unwanted rfl rfl rfl rfl rfl ?_
        refine o_unwanted rfl rfl rfl rfl rfl ?_
        refine o_unwanted rfl rfl rfl rfl rfl ?_
        refine o_unwanted rfl rfl rfl rfl rfl ?_
        refine o_pick_t rfl rfl ?_
        refine o_move ?_
        refine o_unwanted rfl rfl rfl rfl rfl ?_
        refine o_unwanted rfl rfl rfl rfl rfl ?_
        refine o_unwanted rfl rfl rfl rfl rfl ?_
        refine o_unwanted rfl rfl rfl rfl rfl ?_
        refine o_unwanted rfl rfl rfl rfl rfl ?_
        refine o_pick_t rfl rfl ?_
        refine o_move ?_
        refine o_unwanted rfl rfl rfl rfl rfl ?_
        refine o_unwanted rfl rfl rfl rfl rfl ?_
        refine o_unwanted rfl rfl rfl rfl rfl ?_
        refine o_unwanted rfl rfl rfl rfl rfl ?_
        refine o_unwanted rfl rfl rfl rfl rfl ?_
        refine o_pick_t rfl rfl ?_
        first | refine g_endt ?_ | refine g_end ?_
        refine g_meets _ ?_ (Sat.mem ⟨rfl, rfl, rfl, trivial⟩)
        (unfold shortP; generalize p.id.text.size = z1 at *; generalize p.attr.text.size = z2 at *; generalize p.value.text.size = z3 at *; generalize p.other.text.size = z4 at *; rw [Bool.eq_iff_iff]; simp_all <;> omega)
      · first | refine o_want rfl rfl rfl rfl rfl <| o_field rfl ?_ | refine o_want rfl rfl rfl rfl rfl <| o_fieldR rfl (by omega) ?_
        first | refine o_want rfl rfl rfl rfl rfl <| o_field rfl ?_ | refine o_want rfl rfl rfl rfl rfl <| o_fieldR rfl (by omega) ?_
        refine o_want rfl rfl rfl rfl rfl <| o_load1 (v := .string p.attr.text) rfl rfl ?_
        refine o_want rfl rfl rfl rfl rfl <| o_slen rfl rfl (by kernel_rfl) ?_
        refine o_want rfl rfl rfl rfl rfl <| o_gtr rfl rfl ?_
        refine o_pick_f rfl rfl ?_
        refine o_moveB rfl (fun h12 => ?_) (fun h12 => ?_)
        · refine o_unwanted rfl rfl rfl rfl rfl ?_
          refine o_unwanted rfl rfl rfl rfl rfl ?_
          refine o_unwanted rfl rfl rfl rfl rfl ?_
          refine o_unwanted rfl rfl rfl rfl rfl ?_
          refine o_unwanted rfl rfl rfl rfl rfl ?_
          refine o_pick_t rfl rfl ?_
          refine o_move ?_
          refine o_unwanted rfl rfl rfl rfl rfl ?_
          refine o_unwanted rfl rfl rfl rfl rfl ?_
          refine o_unwanted rfl rfl rfl rfl rfl ?_
          refine o_unwanted rfl rfl rfl rfl rfl ?_
          refine o_unwanted rfl rfl rfl rfl rfl ?_
          refine o_pick_t rfl rfl ?_
          first | refine g_endt ?_ | refine g_end ?_
          refine g_meets _ ?_ (Sat.mem ⟨rfl, rfl, rfl, trivial⟩)
          (unfold shortP; generalize p.id.text.size = z1 at *; generalize p.attr.text.size = z2 at *; generalize p.value.text.size = z3 at *; generalize p.other.text.size = z4 at *; rw [Bool.eq_iff_iff]; simp_all <;> omega)
        · first | refine o_want rfl rfl rfl rfl rfl <| o_field rfl ?_ | refine o_want rfl rfl rfl rfl rfl <| o_fieldR rfl (by omega) ?_
          first | refine o_want rfl rfl rfl rfl rfl <| o_field rfl ?_ | refine o_want rfl rfl rfl rfl rfl <| o_fieldR rfl (by omega) ?_
          refine o_want rfl rfl rfl rfl rfl <| o_load1 (v := .string p.value.text) rfl rfl ?_
          refine o_want rfl rfl rfl rfl rfl <| o_slen rfl rfl (by kernel_rfl) ?_
          refine o_want rfl rfl rfl rfl rfl <| o_gtr rfl rfl ?_
          refine o_pick_f rfl rfl ?_
          refine o_moveB rfl (fun h19 => ?_) (fun h19 => ?_)
          · refine o_unwanted rfl rfl rfl rfl rfl ?_
            refine o_unwanted rfl rfl rfl rfl rfl ?_
            refine o_unwanted rfl rfl rfl rfl rfl ?_
            refine o_unwanted rfl rfl rfl rfl rfl ?_
            refine o_unwanted rfl rfl rfl rfl rfl ?_
            refine o_pick_t rfl rfl ?_
            first | refine g_endt ?_ | refine g_end ?_
            refine g_meets _ ?_ (Sat.mem ⟨rfl, rfl, rfl, trivial⟩)
            (unfold shortP; generalize p.id.text.size = z1 at *; generalize p.attr.text.size = z2 at *; generalize p.value.text.size = z3 at *; generalize p.other.text.size = z4 at *; rw [Bool.eq_iff_iff]; simp_all <;> omega)
          · first | refine o_want rfl rfl rfl rfl rfl <| o_field rfl ?_ | refine o_want rfl rfl rfl rfl rfl <| o_fieldR rfl (by omega) ?_
            first | refine o_want rfl rfl rfl rfl rfl <| o_field rfl ?_ | refine o_want rfl rfl rfl rfl rfl <| o_fieldR rfl (by omega) ?_
            refine o_want rfl rfl rfl rfl rfl <| o_load1 (v := .string p.other.text) rfl rfl ?_
            refine o_want rfl rfl rfl rfl rfl <| o_slen rfl rfl (by kernel_rfl) ?_
            refine o_want rfl rfl rfl rfl rfl <| o_gtr rfl rfl ?_
            refine o_pick_f rfl rfl ?_
            first | refine g_endt ?_ | refine g_end ?_
            refine g_meets _ ?_ (Sat.mem ⟨rfl, rfl, rfl, trivial⟩)
            (unfold shortP; generalize p.id.text.size = z1 at *; generalize p.attr.text.size = z2 at *; generalize p.value.text.size = z3 at *; generalize p.other.text.size = z4 at *; rw [Bool.eq_iff_iff]; simp_all <;> omega)
    rintro t ρ2 rfl
    cases hs : shortP p with
    | false =>
      first | refine g_seq (g_cond_t rfl (by first | rfl | (simp; done) | (simp; omega) | (simp; assumption)) ?_) | refine g_cond_t rfl (by first | rfl | (simp; done) | (simp; omega) | (simp; assumption)) ?_
      repeat (first | refine g_endt ?_ | refine g_end ?_ | refine g_then ?_ | refine g_in_normal ?_ | refine g_then_ret ?_ | refine g_in_ret ?_ | refine g_then_exit ?_ | refine g_in_exit rfl ?_ | refine g_in_exit_ne (by decide) ?_ | refine g_seq ?_ | refine g_region ?_ | refine g_block ?_ | refine g_ret ?_ | refine g_return_n ?_ | refine g_exit ?_ | refine g_skip ?_)
      refine g_hideR fun Q_ hQ_ => ?_
      refine o_assign ?_
      refine g_end (G.imp (hQ_ .normal _) ?_)
      clear hQ_ Q_
      try refine g_then ?_
      repeat (first | refine g_endt ?_ | refine g_end ?_ | refine g_then ?_ | refine g_in_normal ?_ | refine g_then_ret ?_ | refine g_in_ret ?_ | refine g_then_exit ?_ | refine g_in_exit rfl ?_ | refine g_in_exit_ne (by decide) ?_ | refine g_seq ?_ | refine g_region ?_ | refine g_block ?_ | refine g_ret ?_ | refine g_return_n ?_ | refine g_exit ?_ | refine g_skip ?_)
      have : lightP ps most = false := by
        unfold lightP
        rw [Bool.and_eq_false_iff, List.all_eq_false]
        exact .inr ⟨p, List.mem_of_getElem? hp, by rw [hs]; decide⟩
      exact ret1 (K := []) rfl (resT (v := .bool false) rfl) ⟨by rw [this], rfl⟩
    | true =>
      first | refine g_seq (g_cond_f rfl (by first | rfl | (simp; done) | (simp; omega) | (simp; assumption)) ?_) | refine g_cond_f rfl (by first | rfl | (simp; done) | (simp; omega) | (simp; assumption)) ?_
      repeat (first | refine g_endt ?_ | refine g_end ?_ | refine g_then ?_ | refine g_in_normal ?_ | refine g_then_ret ?_ | refine g_in_ret ?_ | refine g_then_exit ?_ | refine g_in_exit rfl ?_ | refine g_in_exit_ne (by decide) ?_ | refine g_seq ?_ | refine g_region ?_ | refine g_block ?_ | refine g_ret ?_ | refine g_return_n ?_ | refine g_exit ?_ | refine g_skip ?_)
      repeat (first | refine g_endt ?_ | refine g_end ?_ | refine g_then ?_ | refine g_in_normal ?_ | refine g_then_ret ?_ | refine g_in_ret ?_ | refine g_then_exit ?_ | refine g_in_exit rfl ?_ | refine g_in_exit_ne (by decide) ?_ | refine g_seq ?_ | refine g_region ?_ | refine g_block ?_ | refine g_ret ?_ | refine g_return_n ?_ | refine g_exit ?_ | refine g_skip ?_)
      refine g_hideR fun Q_ hQ_ => ?_
      refine o_move ?_
      refine o_add (c := ((i + 1 : Nat) : Int)) rfl rfl (by omega) (by omega) (by omega) ?_
      refine o_assign ?_
      refine g_end (G.imp (hQ_ .normal _) ?_)
      clear hQ_ Q_
      try refine g_then ?_
      repeat (first | refine g_endt ?_ | refine g_end ?_ | refine g_then ?_ | refine g_in_normal ?_ | refine g_then_ret ?_ | refine g_in_ret ?_ | refine g_then_exit ?_ | refine g_in_exit rfl ?_ | refine g_in_exit_ne (by decide) ?_ | refine g_seq ?_ | refine g_region ?_ | refine g_block ?_ | refine g_ret ?_ | refine g_return_n ?_ | refine g_exit ?_ | refine g_skip ?_)
      exact g_meets ⟨i + 1, hin, by rw [List.take_add_one, hp, List.all_append, hall]; simp [hs]⟩ (by show n - (i + 1) < n - i; omega) (Sat.mem ⟨rfl, rfl, trivial⟩)
  · first | refine g_seq (g_cond_f rfl (by simp; omega) ?_) | refine g_cond_f rfl (by simp; omega) ?_
    rw [List.take_of_length_le (by omega)] at hall
    repeat (first | refine g_endt ?_ | refine g_end ?_ | refine g_then ?_ | refine g_in_normal ?_ | refine g_then_ret ?_ | refine g_in_ret ?_ | refine g_then_exit ?_ | refine g_in_exit rfl ?_ | refine g_in_exit_ne (by decide) ?_ | refine g_seq ?_ | refine g_region ?_ | refine g_block ?_ | refine g_ret ?_ | refine g_return_n ?_ | refine g_exit ?_ | refine g_skip ?_)
    refine g_hideR fun Q_ hQ_ => ?_
    refine o_assign ?_
    refine g_end (G.imp (hQ_ .normal _) ?_)
    clear hQ_ Q_
    try refine g_then ?_
    repeat (first | refine g_endt ?_ | refine g_end ?_ | refine g_then ?_ | refine g_in_normal ?_ | refine g_then_ret ?_ | refine g_in_ret ?_ | refine g_then_exit ?_ | refine g_in_exit rfl ?_ | refine g_in_exit_ne (by decide) ?_ | refine g_seq ?_ | refine g_region ?_ | refine g_block ?_ | refine g_ret ?_ | refine g_return_n ?_ | refine g_exit ?_ | refine g_skip ?_)
    have : lightP ps most = true := by unfold lightP; rw [decide_eq_true (by omega), hall]; rfl
    exact ret1 (K := []) rfl (resT (v := .bool true) rfl) ⟨by rw [this], rfl⟩
/-! ### One for a value -/
def symA1 : SymD := ⟨1, ⟨#[65]⟩, 1⟩
def symX : SymD := ⟨3, ⟨#[120]⟩, 0⟩
def prf (k : Int) (v : SymD) (by_ : Int) : PrefD := ⟨symA1, symX, v, zeroS, k, false, 1, by_⟩
theorem P17_spec (k : Int) (v : SymD) (by_ : Int) : Ctr Tryz.prog 16 [.int .i64 k, v.val, .int .i64 by_] [] (fun u M => u = (prf k v by_).val ∧ M = []) := by
  refine spec_of Tryz.func16 rfl Tryz.ntmps16 rfl fun w0 F => ?_
  -- hide
  -- ponder/ponderlaw17.P
  repeat (first | refine g_endt ?_ | refine g_end ?_ | refine g_then ?_ | refine g_in_normal ?_ | refine g_then_ret ?_ | refine g_in_ret ?_ | refine g_then_exit ?_ | refine g_in_exit rfl ?_ | refine g_in_exit_ne (by decide) ?_ | refine g_seq ?_ | refine g_region ?_ | refine g_block ?_ | refine g_ret ?_ | refine g_return_n ?_ | refine g_exit ?_ | refine g_skip ?_)
  refine g_hideR fun Q_ hQ_ => ?_
  refine o_boxc v.val.cells rfl rfl fun b => ?_
  refine o_alloc fun r => ?_
  refine g_end (G.imp (hQ_ .normal _) ?_)
  clear hQ_ Q_
  try refine g_then ?_
  repeat (first | refine g_endt ?_ | refine g_end ?_ | refine g_then ?_ | refine g_in_normal ?_ | refine g_then_ret ?_ | refine g_in_ret ?_ | refine g_then_exit ?_ | refine g_in_exit rfl ?_ | refine g_in_exit_ne (by decide) ?_ | refine g_seq ?_ | refine g_region ?_ | refine g_block ?_ | refine g_ret ?_ | refine g_return_n ?_ | refine g_exit ?_ | refine g_skip ?_)
  refine g_hide fun Q_ hQ_ => ?_
  refine g_draw [6] [0,1,2,3,4,5,6] [cellsB b v.val.cells 39] mixed rfl ?_
  refine ob_q rfl rfl ⟨_, fun X Q h => o_call (I_spec ⟨#[65]⟩ 1) rfl rfl <| by rintro _ _ ⟨rfl, rfl⟩; exact (g_end (h _ _ ⟨rfl, rfl⟩)), ?_⟩
  refine ob_q rfl rfl ⟨_, fun X Q h => o_call (W_spec ⟨#[120]⟩) rfl rfl <| by rintro _ _ ⟨rfl, rfl⟩; exact (g_end (h _ _ ⟨rfl, rfl⟩)), ?_⟩
  refine ob_q rfl rfl ⟨_, fun X Q h => o_loadN (v := v.val) rfl rfl rfl (g_end (h _ _ ⟨rfl, rfl⟩)), ?_⟩
  refine ob_q rfl rfl ⟨_, fun X Q h => o_move (g_end (h _ _ ⟨rfl, rfl⟩)), ?_⟩
  refine ob_q rfl rfl ⟨_, fun X Q h => o_move (g_end (h _ _ ⟨rfl, rfl⟩)), ?_⟩
  refine ob_q rfl rfl ⟨_, fun X Q h => o_build (prf k v by_).val (fun w => by kernel_rfl) (g_end (h _ _ ⟨rfl, rfl⟩)), ?_⟩
  refine ob_l rfl rfl fun Qz hz => o_store (v := (prf k v by_).val) rfl rfl rfl rfl rfl ?_
  refine g_end (hz _ _ ⟨_, ob_fin, ?_⟩)
  clear hz Qz
  refine ob_nil ?_
  refine G.imp (hQ_ .normal _) ?_
  clear hQ_ Q_
  try refine g_then ?_
  refine G.norm r (prf k v by_).val.cells rfl ?_
  repeat (first | refine g_endt ?_ | refine g_end ?_ | refine g_then ?_ | refine g_in_normal ?_ | refine g_then_ret ?_ | refine g_in_ret ?_ | refine g_then_exit ?_ | refine g_in_exit rfl ?_ | refine g_in_exit_ne (by decide) ?_ | refine g_seq ?_ | refine g_region ?_ | refine g_block ?_ | refine g_ret ?_ | refine g_return_n ?_ | refine g_exit ?_ | refine g_skip ?_)
  exact ret1 rfl (resCN (v := (prf k v by_).val) rfl rfl rfl) ⟨rfl, rfl⟩
/-! ### The document's example -/
def symV : SymD := ⟨3, ⟨#[118]⟩, 0⟩
def wk1 : PrefD := prf 1 symV 1
def wk2 : PrefD := prf 2 symV 2
theorem beq_yes {a b : SymD} (h : a = b) : a.beq b = true := (SymD.beq_iff a b).2 h
theorem beq_no {a b : SymD} (h : a.cmp b ≠ 0) : a.beq b = false := by
  rw [Bool.eq_false_iff]; intro e; exact h (SymD.cmp_iff.2 ((SymD.beq_iff a b).1 e))
theorem prf_slot (k : Int) (v : SymD) (b : Int) : (prf k v b).slot = false := beq_no (show symX.cmp opSym ≠ 0 by decide +kernel)
theorem validX : validS symA1 = true ∧ validS symX = true ∧ validS symV = true := by decide +kernel
theorem prf_valid {k : Int} {v : SymD} {b : Int} (hk : 1 ≤ k) (hk2 : k < 8) (hv : validS v = true) (hb : 1 ≤ b) (o : Bool) : validP { prf k v b with o := o } = true := by
  have h1 : okA { prf k v b with o := o } = true := by
    show (decide (symA1.kind = 1) && (decide (symX.kind ≠ 1) && (validS symA1 && (validS symX && (validS v && (decide (1 ≤ k) && decide (k ≤ 10))))))) = true
    rw [validX.1, validX.2.1, hv, decide_eq_true hk, decide_eq_true (show k ≤ 10 by omega)]; rfl
  have h2 : okB { prf k v b with o := o } = true := by
    show (if 8 ≤ k then _ else zeroS.beq zeroS) = true
    rw [if_neg (by omega)]; exact beq_yes rfl
  have h3 : okC { prf k v b with o := o } = true := by
    show (decide ((1 : Int) ≤ 1) && (decide ((1 : Int) ≤ 8) && (decide (1 ≤ b) && (!o || !(prf k v b).slot)))) = true
    rw [prf_slot, decide_eq_true hb]; cases o <;> rfl
  unfold validP
  rw [h1, h2, h3]; rfl
theorem wk_add : addR 9 [] [wk1, wk2] = (0, [wk1, wk2]) := by
  have h1 : validP wk1 = true := prf_valid (by decide) (by decide) validX.2.2 (by decide) false
  have h2 : validP wk2 = true := prf_valid (by decide) (by decide) validX.2.2 (by decide) false
  have h3 : outP [] [wk1, wk2] = [wk1, wk2] := rfl
  rw [addR_ok (by simp [h1, h2]) (by rw [h3]; decide), h3]
theorem wk_rej : rejD [wk1, wk2] wk1 = true := by
  unfold rejD
  rw [List.any_eq_true]
  refine ⟨wk2, by simp, ?_⟩
  rw [beq_yes (show wk2.id = wk1.id from rfl), beq_yes (show wk2.attr = wk1.attr from rfl), beq_yes (show wk2.value = wk1.value from rfl)]
  decide
theorem wk_ref : refE [wk1, wk2] = [] := by
  have h1 : refQ [wk1, wk2] wk1 = false := by unfold refQ; rw [show wk1.slot = false from prf_slot _ _ _, wk_rej]; rfl
  have h2 : refQ [wk1, wk2] wk2 = false := by unfold refQ; rw [show wk2.slot = false from prf_slot _ _ _]; rfl
  unfold refE
  simp [List.filter_cons, h1, h2, sortE]
theorem wk_ref1 : refE [wk1] = [eOf wk1] := by
  have h1 : refQ [wk1] wk1 = true := by
    have : rejD [wk1] wk1 = false := rfl
    unfold refQ; rw [show wk1.slot = false from prf_slot _ _ _, this]; rfl
  unfold refE
  rw [List.filter_cons, if_pos h1]; rfl
theorem wk_cause : causeD symV 1 (slotL [wk1] ⟨symA1, symX⟩) = 1 := by
  have h0 : slotL [wk1] ⟨symA1, symX⟩ = [wk1] := by
    unfold slotL
    rw [List.filter_cons, if_pos (by rw [decide_eq_true_iff]; exact linSlot.refl _)]; rfl
  rw [h0]
  unfold causeD
  rw [List.foldl_cons, List.foldl_nil]
  unfold causeF suitP
  rw [beq_yes (show wk1.value = symV from rfl)]
  decide
theorem Add17K_spec (m : Nat) (room : Int) (ps : List PrefD) (A : Option Addr) (n c : Nat) (l : List PrefD) (hl : l.length = n) (hm : n ≤ 10000) (hp : ps.length ≤ 10000) (hsm : ∀ p ∈ l, p.small) {v0 : Int} {ps' : List PrefD} (h : addR room ps l = (v0, ps')) :
    Ctr Tryz.prog 15 [.pointer (some ⟨m, 0, none⟩), .slice A n c] [MemP m room ps, psl encP 16 A l] (fun v M => v = .int .i64 v0 ∧ M = [MemP m room ps']) := by
  have := Add17_spec m room ps A n c l hl hm hp hsm
  rwa [h] at this
theorem prf_small (k : Int) (v : SymD) (b : Int) (hv : v.text.size ≤ 100) (o : Bool) : PrefD.small { prf k v b with o := o } := by
  refine ⟨?_, ?_, ?_, ?_⟩
  · show symA1.text.size ≤ _; decide
  · show symX.text.size ≤ _; decide
  · show v.text.size ≤ _; omega
  · show zeroS.text.size ≤ _; decide
theorem Drop17K_spec (m : Nat) (room : Int) (ps : List PrefD) (hp : ps.length ≤ 10000) (A : Option Addr) (n c : Nat) (nums : List Int) (hl : nums.length = n) (hn : n ≤ 1000) {v0 : Int} {os : List PrefD} (h : goneR ps (dropG nums) = os) (h2 : ((ps.length - os.length : Nat) : Int) = v0) :
    Ctr Tryz.prog 19 [.pointer (some ⟨m, 0, none⟩), .slice A n c] [MemP m room ps, psl encI 1 A nums] (fun v M => v = .int .i64 v0 ∧ M = [MemP m room os, psl encI 1 A nums]) := by
  have := Drop17_spec m room ps hp A n c nums hl hn
  rwa [h, h2] at this
theorem wk_drop : goneR [wk1, wk2] (dropG [2]) = [wk1] := rfl
abbrev elK (m : Nat) (room : Int) (ps : List PrefD) (b : Nat) : List SProp := [pM b m, MemP m room ps]
theorem ListE17_spec (m : Nat) (room : Int) (ps : List PrefD) (hp : ps.length ≤ 90000) (b : Nat) {es : List ElemD} (he : refE ps = es) : Ctr Tryz.prog 17 [.func (.func 41) #[] #[.pointer (some ⟨b, 0, none⟩)]] (elK m room ps b)
    (fun v M => ∃ S c, v = .slice S es.length c ∧ M = osl 58 encE 12 S c es :: elK m room ps b) := by
  have hl : es.length ≤ ps.length := by rw [← he]; exact refE_len ps
  exact ListE_spec 41 [.pointer (some ⟨b, 0, none⟩)] es rfl (by omega) (elK m room ps b) (fun K => elems_iter m room ps hp b he _)
abbrev cSym (c : Nat) (s : SymD) : SProp := cellsB c s.val.cells 39
set_option maxHeartbeats 2000000 in
theorem wakes17_spec : Ctr Tryz.prog 6 [] [] (fun v M => v = .bool true ∧ M = []) := by
  refine spec_of Tryz.func6 rfl Tryz.ntmps6 rfl fun w0 F => ?_
  -- hide
  -- ponder/ponderlaw17.wakes
  have hsm : ∀ p ∈ [wk1, wk2], p.small := fun p hp => by
    simp only [List.mem_cons, List.not_mem_nil, or_false] at hp
    rcases hp with rfl | rfl
    · exact prf_small 1 symV 1 (by decide) false
    · exact prf_small 2 symV 2 (by decide) false
  repeat (first | refine g_endt ?_ | refine g_end ?_ | refine g_then ?_ | refine g_in_normal ?_ | refine g_then_ret ?_ | refine g_in_ret ?_ | refine g_then_exit ?_ | refine g_in_exit rfl ?_ | refine g_in_exit_ne (by decide) ?_ | refine g_seq ?_ | refine g_region ?_ | refine g_block ?_ | refine g_ret ?_ | refine g_return_n ?_ | refine g_exit ?_ | refine g_skip ?_)
  refine g_hideR fun Q_ hQ_ => ?_
  refine o_assign ?_
  refine g_end (G.imp (hQ_ .normal _) ?_)
  clear hQ_ Q_
  try refine g_then ?_
  repeat (first | refine g_endt ?_ | refine g_end ?_ | refine g_then ?_ | refine g_in_normal ?_ | refine g_then_ret ?_ | refine g_in_ret ?_ | refine g_then_exit ?_ | refine g_in_exit rfl ?_ | refine g_in_exit_ne (by decide) ?_ | refine g_seq ?_ | refine g_region ?_ | refine g_block ?_ | refine g_ret ?_ | refine g_return_n ?_ | refine g_exit ?_ | refine g_skip ?_)
  refine g_hideR fun Q_ hQ_ => ?_
  refine o_call (NewG17_spec 9 (by decide) (by decide)) rfl rfl ?_
  rintro _ _ ⟨m, rfl, rfl⟩
  refine o_move ?_
  refine o_extract rfl rfl ?_
  refine o_extract rfl rfl ?_
  refine o_assign ?_
  refine o_assign ?_
  refine g_end (G.imp (hQ_ .normal _) ?_)
  clear hQ_ Q_
  try refine g_then ?_
  repeat (first | refine g_endt ?_ | refine g_end ?_ | refine g_then ?_ | refine g_in_normal ?_ | refine g_then_ret ?_ | refine g_in_ret ?_ | refine g_then_exit ?_ | refine g_in_exit rfl ?_ | refine g_in_exit_ne (by decide) ?_ | refine g_seq ?_ | refine g_region ?_ | refine g_block ?_ | refine g_ret ?_ | refine g_return_n ?_ | refine g_exit ?_ | refine g_skip ?_)
  refine g_hideR fun Q_ hQ_ => ?_
  refine o_move ?_
  refine o_neq rfl rfl ?_
  refine o_move ?_
  first | (refine o_want rfl rfl rfl rfl rfl ?_; refine o_move ?_) | refine o_unwanted rfl rfl rfl rfl rfl ?_ | refine o_undef rfl rfl rfl ?_
  first | (refine o_want rfl rfl rfl rfl rfl ?_; refine o_peql rfl ?_) | refine o_unwanted rfl rfl rfl rfl rfl ?_ | refine o_undef rfl rfl rfl ?_
  first | refine o_pick_t rfl rfl ?_ | refine o_pick_f rfl rfl ?_
  refine g_end (G.imp (hQ_ .normal _) ?_)
  clear hQ_ Q_
  try refine g_then ?_
  first | refine g_seq (g_cond_f rfl (by first | rfl | (simp; done) | (simp; omega) | (simp; assumption)) ?_) | refine g_cond_f rfl (by first | rfl | (simp; done) | (simp; omega) | (simp; assumption)) ?_
  repeat (first | refine g_endt ?_ | refine g_end ?_ | refine g_then ?_ | refine g_in_normal ?_ | refine g_then_ret ?_ | refine g_in_ret ?_ | refine g_then_exit ?_ | refine g_in_exit rfl ?_ | refine g_in_exit_ne (by decide) ?_ | refine g_seq ?_ | refine g_region ?_ | refine g_block ?_ | refine g_ret ?_ | refine g_return_n ?_ | refine g_exit ?_ | refine g_skip ?_)
  refine g_hideR fun Q_ hQ_ => ?_
  refine o_call (W_spec ⟨#[118]⟩) rfl rfl ?_
  rintro _ _ ⟨rfl, rfl⟩
  refine o_alloc fun c3 => ?_
  refine o_store (v := symV.val) rfl rfl rfl rfl rfl ?_
  refine g_end (G.imp (hQ_ .normal _) ?_)
  clear hQ_ Q_
  try refine g_then ?_
  refine G.norm c3 symV.val.cells rfl ?_
  repeat (first | refine g_endt ?_ | refine g_end ?_ | refine g_then ?_ | refine g_in_normal ?_ | refine g_then_ret ?_ | refine g_in_ret ?_ | refine g_then_exit ?_ | refine g_in_exit rfl ?_ | refine g_in_exit_ne (by decide) ?_ | refine g_seq ?_ | refine g_region ?_ | refine g_block ?_ | refine g_ret ?_ | refine g_return_n ?_ | refine g_exit ?_ | refine g_skip ?_)
  refine g_hide fun Q_ hQ_ => ?_
  refine g_draw [5,6] [0,1,2,3,4,5,6] [cSym c3 symV] mixed rfl ?_
  refine ob_q rfl rfl ⟨_, fun X Q h => o_move (g_end (h _ _ ⟨rfl, rfl⟩)), ?_⟩
  refine ob_q rfl rfl ⟨_, fun X Q h => o_loadN (v := symV.val) rfl rfl rfl (g_end (h _ _ ⟨rfl, rfl⟩)), ?_⟩
  refine ob_q rfl rfl ⟨_, fun X Q h => o_call (P17_spec 1 symV 1) rfl rfl <| by rintro _ _ ⟨rfl, rfl⟩; exact (g_end (h _ _ ⟨rfl, rfl⟩)), ?_⟩
  refine ob_q rfl rfl ⟨_, fun X Q h => o_loadN (v := symV.val) rfl rfl rfl (g_end (h _ _ ⟨rfl, rfl⟩)), ?_⟩
  refine ob_q rfl rfl ⟨_, fun X Q h => o_call (P17_spec 2 symV 2) rfl rfl <| by rintro _ _ ⟨rfl, rfl⟩; exact (g_end (h _ _ ⟨rfl, rfl⟩)), ?_⟩
  refine ob_l rfl rfl fun Qz hz => o_litP (e := 41) encP [wk1, wk2] (wk1.val.cells ++ wk2.val.cells) (fun w => by kernel_rfl) (by simp [encP]) (by decide) fun S1 => ?_
  refine g_end (hz _ _ ⟨_, ob_fin, ?_⟩)
  clear hz Qz
  refine ob_l rfl rfl fun Qz hz => o_call (Add17K_spec m 9 [] (some ⟨S1, 0, none⟩) 2 2 [wk1, wk2] rfl (by decide) (by decide) hsm wk_add) rfl rfl ?_
  rintro _ _ ⟨rfl, rfl⟩
  refine g_end (hz _ _ ⟨_, ob_fin, ?_⟩)
  clear hz Qz
  refine ob_nil ?_
  refine G.imp (hQ_ .normal _) ?_
  clear hQ_ Q_
  try refine g_then ?_
  repeat (first | refine g_endt ?_ | refine g_end ?_ | refine g_then ?_ | refine g_in_normal ?_ | refine g_then_ret ?_ | refine g_in_ret ?_ | refine g_then_exit ?_ | refine g_in_exit rfl ?_ | refine g_in_exit_ne (by decide) ?_ | refine g_seq ?_ | refine g_region ?_ | refine g_block ?_ | refine g_ret ?_ | refine g_return_n ?_ | refine g_exit ?_ | refine g_skip ?_)
  refine g_hideR fun Q_ hQ_ => ?_
  refine o_move ?_
  refine o_call (Elems17_spec m) rfl rfl ?_
  rintro _ _ ⟨b1, rfl, rfl⟩
  refine o_call (ListE17_spec m 9 [wk1, wk2] (by decide) b1 wk_ref) rfl rfl ?_
  rintro _ _ ⟨S2, s2, rfl, rfl⟩
  refine o_len rfl rfl ?_
  refine o_assign ?_
  refine g_end (G.imp (hQ_ .normal _) ?_)
  clear hQ_ Q_
  try refine g_then ?_
  repeat (first | refine g_endt ?_ | refine g_end ?_ | refine g_then ?_ | refine g_in_normal ?_ | refine g_then_ret ?_ | refine g_in_ret ?_ | refine g_then_exit ?_ | refine g_in_exit rfl ?_ | refine g_in_exit_ne (by decide) ?_ | refine g_seq ?_ | refine g_region ?_ | refine g_block ?_ | refine g_ret ?_ | refine g_return_n ?_ | refine g_exit ?_ | refine g_skip ?_)
  refine g_hideR fun Q_ hQ_ => ?_
  refine o_move ?_
  refine o_litP (e := 3) encI [2] #[.int .i64 2] (fun w => by kernel_rfl) rfl (by decide) fun S3 => ?_
  refine o_call (Drop17K_spec m 9 [wk1, wk2] (by decide) (some ⟨S3, 0, none⟩) 1 1 [2] rfl (by decide) wk_drop rfl) rfl rfl ?_
  rintro _ _ ⟨rfl, rfl⟩
  refine g_end (G.imp (hQ_ .normal _) ?_)
  clear hQ_ Q_
  try refine g_then ?_
  repeat (first | refine g_endt ?_ | refine g_end ?_ | refine g_then ?_ | refine g_in_normal ?_ | refine g_then_ret ?_ | refine g_in_ret ?_ | refine g_then_exit ?_ | refine g_in_exit rfl ?_ | refine g_in_exit_ne (by decide) ?_ | refine g_seq ?_ | refine g_region ?_ | refine g_block ?_ | refine g_ret ?_ | refine g_return_n ?_ | refine g_exit ?_ | refine g_skip ?_)
  refine g_hideR fun Q_ hQ_ => ?_
  refine o_move ?_
  refine o_call (Elems17_spec m) rfl rfl ?_
  rintro _ _ ⟨b2, rfl, rfl⟩
  refine o_call (ListE17_spec m 9 [wk1] (by decide) b2 wk_ref1) rfl rfl ?_
  rintro _ _ ⟨S4, s4, rfl, rfl⟩
  refine o_len rfl rfl ?_
  refine o_assign ?_
  refine g_end (G.imp (hQ_ .normal _) ?_)
  clear hQ_ Q_
  try refine g_then ?_
  repeat (first | refine g_endt ?_ | refine g_end ?_ | refine g_then ?_ | refine g_in_normal ?_ | refine g_then_ret ?_ | refine g_in_ret ?_ | refine g_then_exit ?_ | refine g_in_exit rfl ?_ | refine g_in_exit_ne (by decide) ?_ | refine g_seq ?_ | refine g_region ?_ | refine g_block ?_ | refine g_ret ?_ | refine g_return_n ?_ | refine g_exit ?_ | refine g_skip ?_)
  refine g_hide fun Q_ hQ_ => ?_
  refine g_draw [12] [0,1,2,3,4,5,6,7,8,9,10,11,12,13,14,15] [cSym c3 symV] mixed rfl ?_
  refine ob_q rfl rfl ⟨_, fun X Q h => o_move (g_end (h _ _ ⟨rfl, rfl⟩)), ?_⟩
  refine ob_q rfl rfl ⟨_, fun X Q h => o_eqlT (t := true) rfl rfl rfl (g_end (h _ _ ⟨rfl, rfl⟩)), ?_⟩
  refine ob_q rfl rfl ⟨_, fun X Q h => o_move (g_end (h _ _ ⟨rfl, rfl⟩)), ?_⟩
  first | refine ob_q rfl rfl ⟨_, fun X Q h => o_want rfl rfl rfl rfl rfl <| o_move (g_end (h _ _ ⟨rfl, rfl⟩)), ?_⟩ | refine ob_q rfl rfl ⟨_, fun X Q h => o_unwanted rfl rfl rfl rfl rfl (g_end (h _ _ ⟨rfl, rfl⟩)), ?_⟩ | refine ob_q rfl rfl ⟨_, fun X Q h => o_undef rfl rfl rfl (g_end (h _ _ ⟨rfl, rfl⟩)), ?_⟩
  refine ob_q rfl rfl ⟨_, fun X Q h => o_want rfl rfl rfl rfl rfl <| o_eqlT (t := true) rfl rfl rfl (g_end (h _ _ ⟨rfl, rfl⟩)), ?_⟩
  first | refine ob_q rfl rfl ⟨_, fun X Q h => o_pick_t rfl rfl (g_end (h _ _ ⟨rfl, rfl⟩)), ?_⟩ | refine ob_q rfl rfl ⟨_, fun X Q h => o_pick_f rfl rfl (g_end (h _ _ ⟨rfl, rfl⟩)), ?_⟩
  refine ob_q rfl rfl ⟨_, fun X Q h => o_move (g_end (h _ _ ⟨rfl, rfl⟩)), ?_⟩
  first | refine ob_q rfl rfl ⟨_, fun X Q h => o_want rfl rfl rfl rfl rfl <| o_move (g_end (h _ _ ⟨rfl, rfl⟩)), ?_⟩ | refine ob_q rfl rfl ⟨_, fun X Q h => o_unwanted rfl rfl rfl rfl rfl (g_end (h _ _ ⟨rfl, rfl⟩)), ?_⟩ | refine ob_q rfl rfl ⟨_, fun X Q h => o_undef rfl rfl rfl (g_end (h _ _ ⟨rfl, rfl⟩)), ?_⟩
  refine ob_q rfl rfl ⟨_, fun X Q h => o_want rfl rfl rfl rfl rfl <| o_call (I_spec ⟨#[65]⟩ 1) rfl rfl <| by rintro _ _ ⟨rfl, rfl⟩; exact (g_end (h _ _ ⟨rfl, rfl⟩)), ?_⟩
  refine ob_q rfl rfl ⟨_, fun X Q h => o_want rfl rfl rfl rfl rfl <| o_call (W_spec ⟨#[120]⟩) rfl rfl <| by rintro _ _ ⟨rfl, rfl⟩; exact (g_end (h _ _ ⟨rfl, rfl⟩)), ?_⟩
  refine ob_q rfl rfl ⟨_, fun X Q h => o_want rfl rfl rfl rfl rfl <| o_loadN (v := symV.val) rfl rfl rfl (g_end (h _ _ ⟨rfl, rfl⟩)), ?_⟩
  refine ob_q rfl rfl ⟨_, fun X Q h => o_want rfl rfl rfl rfl rfl <| o_build (ElemD.val ⟨symA1, symX, symV, false, false, 0⟩) (fun w => by kernel_rfl) (g_end (h _ _ ⟨rfl, rfl⟩)), ?_⟩
  refine ob_l rfl rfl fun Qz hz => o_want rfl rfl rfl rfl rfl <| o_call (Cause17_spec m 9 [wk1] (by decide) ⟨symA1, symX, symV, false, false, 0⟩ 1 wk_cause) rfl rfl ?_
  rintro _ _ ⟨rfl, rfl⟩
  refine g_end (hz _ _ ⟨_, ob_fin, ?_⟩)
  clear hz Qz
  refine ob_q rfl rfl ⟨_, fun X Q h => o_want rfl rfl rfl rfl rfl <| o_eqlT (t := true) rfl rfl rfl (g_end (h _ _ ⟨rfl, rfl⟩)), ?_⟩
  first | refine ob_q rfl rfl ⟨_, fun X Q h => o_pick_t rfl rfl (g_end (h _ _ ⟨rfl, rfl⟩)), ?_⟩ | refine ob_q rfl rfl ⟨_, fun X Q h => o_pick_f rfl rfl (g_end (h _ _ ⟨rfl, rfl⟩)), ?_⟩
  refine ob_q rfl rfl ⟨_, fun X Q h => o_assign (g_end (h _ _ ⟨rfl, rfl⟩)), ?_⟩
  refine ob_nil ?_
  refine G.imp (hQ_ .normal _) ?_
  clear hQ_ Q_
  try refine g_then ?_
  repeat (first | refine g_endt ?_ | refine g_end ?_ | refine g_then ?_ | refine g_in_normal ?_ | refine g_then_ret ?_ | refine g_in_ret ?_ | refine g_then_exit ?_ | refine g_in_exit rfl ?_ | refine g_in_exit_ne (by decide) ?_ | refine g_seq ?_ | refine g_region ?_ | refine g_block ?_ | refine g_ret ?_ | refine g_return_n ?_ | refine g_exit ?_ | refine g_skip ?_)
  exact ret1 (K := []) rfl (resT (v := .bool true) rfl) ⟨rfl, rfl⟩
end Go.Proofs.YtonaccfoelgpnaaGreat
/- What is told, as a list. -/
namespace Go.Proofs.YtonaccfoelgpnaaGreat
open Go Go.Sl
attribute [local irreducible] Code.wpIn roundPost bodyPostM runL Ret Meets Begin

theorem ListP_spec (gf : FuncId) (lb : List Value) (xs : List PrefD) {n : Nat} (hn : xs.length = n) (hl : n ≤ 100000) (Ks : List SProp) [En Tryz.prog gf] (hit : ∀ K, Iter Tryz.prog gf lb encVP xs (K ++ Ks)) :
    Ctr Tryz.prog 11 [.func (.func gf) #[] lb.toArray] Ks (fun v M => ∃ S c, v = .slice S n c ∧ M = osl 41 encP 16 S c xs :: Ks) := by
  refine spec_of Tryz.func11 rfl Tryz.ntmps11 rfl fun w0 F => ?_
  subst hn
  -- ponder/ponderkeep.List[ponder/api.Pref]
  repeat (first | refine g_endt ?_ | refine g_end ?_ | refine g_then ?_ | refine g_in_normal ?_ | refine g_then_ret ?_ | refine g_in_ret ?_ | refine g_then_exit ?_ | refine g_in_exit rfl ?_ | refine g_in_exit_ne (by decide) ?_ | refine g_seq ?_ | refine g_region ?_ | refine g_block ?_ | refine g_ret ?_ | refine g_return_n ?_ | refine g_exit ?_ | refine g_skip ?_)
  refine o_assign ?_
  first | refine g_endt ?_ | refine g_end ?_
  repeat (first | refine g_endt ?_ | refine g_end ?_ | refine g_then ?_ | refine g_in_normal ?_ | refine g_then_ret ?_ | refine g_in_ret ?_ | refine g_then_exit ?_ | refine g_in_exit rfl ?_ | refine g_in_exit_ne (by decide) ?_ | refine g_seq ?_ | refine g_region ?_ | refine g_block ?_ | refine g_ret ?_ | refine g_return_n ?_ | refine g_exit ?_ | refine g_skip ?_)
  refine o_alloc fun p => ?_
  first | refine g_endt ?_ | refine g_end ?_
  repeat (first | refine g_endt ?_ | refine g_end ?_ | refine g_then ?_ | refine g_in_normal ?_ | refine g_then_ret ?_ | refine g_in_ret ?_ | refine g_then_exit ?_ | refine g_in_exit rfl ?_ | refine g_in_exit_ne (by decide) ?_ | refine g_seq ?_ | refine g_region ?_ | refine g_block ?_ | refine g_ret ?_ | refine g_return_n ?_ | refine g_exit ?_ | refine g_skip ?_)
  refine o_move ?_
  refine o_fnil rfl (fun w => by kernel_rfl) (fun w => by kernel_rfl) ?_
  first | refine g_endt ?_ | refine g_end ?_
  first | refine g_seq (g_cond_f rfl (by first | rfl | (simp; done) | (simp; omega) | (simp; assumption)) ?_) | refine g_cond_f rfl (by first | rfl | (simp; done) | (simp; omega) | (simp; assumption)) ?_
  repeat (first | refine g_endt ?_ | refine g_end ?_ | refine g_then ?_ | refine g_in_normal ?_ | refine g_then_ret ?_ | refine g_in_ret ?_ | refine g_then_exit ?_ | refine g_in_exit rfl ?_ | refine g_in_exit_ne (by decide) ?_ | refine g_seq ?_ | refine g_region ?_ | refine g_block ?_ | refine g_ret ?_ | refine g_return_n ?_ | refine g_exit ?_ | refine g_skip ?_)
  refine o_move ?_
  first | refine g_endt ?_ | refine g_end ?_
  repeat (first | refine g_endt ?_ | refine g_end ?_ | refine g_then ?_ | refine g_in_normal ?_ | refine g_then_ret ?_ | refine g_in_ret ?_ | refine g_then_exit ?_ | refine g_in_exit rfl ?_ | refine g_in_exit_ne (by decide) ?_ | refine g_seq ?_ | refine g_region ?_ | refine g_block ?_ | refine g_ret ?_ | refine g_return_n ?_ | refine g_exit ?_ | refine g_skip ?_)
  refine G.norm p #[.slice none 0 0] rfl ?_
  refine newGP p ?_
  refine g_range (ps := [8]) (enc := encVP) (xs := xs) rfl (fun pre => [GrowP p pre] ++ Ks) (fun _ _ => [pu False]) (fun K => hit [K, GrowP p []]) (fun _ => rfl) ?_ ?_ ?_
  · intro w0 F l r pre x hp
    have hlen : pre.length < xs.length := by
      obtain ⟨t, ht⟩ := hp
      have := congrArg List.length ht
      simp at this
      omega
    refine openGP p pre fun S e => ?_
    repeat (first | refine g_endt ?_ | refine g_end ?_ | refine g_then ?_ | refine g_in_normal ?_ | refine g_then_ret ?_ | refine g_in_ret ?_ | refine g_then_exit ?_ | refine g_in_exit rfl ?_ | refine g_in_exit_ne (by decide) ?_ | refine g_seq ?_ | refine g_region ?_ | refine g_block ?_ | refine g_ret ?_ | refine g_return_n ?_ | refine g_exit ?_ | refine g_skip ?_)
    refine o_alloc fun c => ?_
    refine o_store (v := PrefD.val x) rfl rfl rfl rfl rfl ?_
    first | refine g_endt ?_ | refine g_end ?_
    refine G.norm c (PrefD.val x).cells rfl ?_
    repeat (first | refine g_endt ?_ | refine g_end ?_ | refine g_then ?_ | refine g_in_normal ?_ | refine g_then_ret ?_ | refine g_in_ret ?_ | refine g_then_exit ?_ | refine g_in_exit rfl ?_ | refine g_in_exit_ne (by decide) ?_ | refine g_seq ?_ | refine g_region ?_ | refine g_block ?_ | refine g_ret ?_ | refine g_return_n ?_ | refine g_exit ?_ | refine g_skip ?_)
    refine g_begin ?_
    repeat (first | refine g_endt ?_ | refine g_end ?_ | refine g_then ?_ | refine g_in_normal ?_ | refine g_then_ret ?_ | refine g_in_ret ?_ | refine g_then_exit ?_ | refine g_in_exit rfl ?_ | refine g_in_exit_ne (by decide) ?_ | refine g_seq ?_ | refine g_region ?_ | refine g_block ?_ | refine g_ret ?_ | refine g_return_n ?_ | refine g_exit ?_ | refine g_skip ?_)
    first | refine o_load1 rfl rfl ?_ | refine o_loadE0 rfl (by assumption) rfl ?_ | refine o_loadE1 rfl (by assumption) rfl ?_
    refine o_loadN (v := PrefD.val x) rfl rfl rfl ?_
    refine o_litP (e := 41) encP [x] (PrefD.val x).cells (fun w => by kernel_rfl) (by simp [encP]) (by simp [maxLen]) fun _ => ?_
    refine o_append (xs := pre) (ys := [x]) (by first | rfl | (simp only [List.length_map, List.length_take, List.length_append]; first | rfl | (congr 1; omega))) rfl rfl rfl rfl (fun _ => .inr trivial) (by simp [maxLen]; omega) (by simp; omega) fun S2 e2 => ?_
    refine o_store (v := .slice S2 (pre.length + 1) e2) rfl rfl rfl rfl rfl ?_
    first | refine g_endt ?_ | refine g_end ?_
    refine G.norm p #[.slice S2 (pre.length + 1) e2] rfl ?_
    refine shutGP p (pre ++ [x]) S2 e2 (n := pre.length + 1) (by simp) ?_
    repeat (first | refine g_endt ?_ | refine g_end ?_ | refine g_then ?_ | refine g_in_normal ?_ | refine g_then_ret ?_ | refine g_in_ret ?_ | refine g_then_exit ?_ | refine g_in_exit rfl ?_ | refine g_in_exit_ne (by decide) ?_ | refine g_seq ?_ | refine g_region ?_ | refine g_block ?_ | refine g_ret ?_ | refine g_return_n ?_ | refine g_exit ?_ | refine g_skip ?_)
    exact g_next
  · intro D
    refine openGP p xs fun S e => ?_
    repeat (first | refine g_endt ?_ | refine g_end ?_ | refine g_then ?_ | refine g_in_normal ?_ | refine g_then_ret ?_ | refine g_in_ret ?_ | refine g_then_exit ?_ | refine g_in_exit rfl ?_ | refine g_in_exit_ne (by decide) ?_ | refine g_seq ?_ | refine g_region ?_ | refine g_block ?_ | refine g_ret ?_ | refine g_return_n ?_ | refine g_exit ?_ | refine g_skip ?_)
    first | refine o_load1 rfl rfl ?_ | refine o_loadE0 rfl (by assumption) rfl ?_ | refine o_loadE1 rfl (by assumption) rfl ?_
    refine o_assign ?_
    first | refine g_endt ?_ | refine g_end ?_
    repeat (first | refine g_endt ?_ | refine g_end ?_ | refine g_then ?_ | refine g_in_normal ?_ | refine g_then_ret ?_ | refine g_in_ret ?_ | refine g_then_exit ?_ | refine g_in_exit rfl ?_ | refine g_in_exit_ne (by decide) ?_ | refine g_seq ?_ | refine g_region ?_ | refine g_block ?_ | refine g_ret ?_ | refine g_return_n ?_ | refine g_exit ?_ | refine g_skip ?_)
    exact ret1 (K := osl 41 encP 16 S e xs :: Ks) rfl (resT rfl) ⟨S, e, rfl, rfl⟩
  · intro D c pre hp
    exact G.pu fun h => h.elim
end Go.Proofs.YtonaccfoelgpnaaGreat
/- An ordered set's functions, for one type of members: another set with the same members. -/
namespace Go.Proofs.YtonaccfoelgpnaaGreat
open Go Go.Sl
attribute [local irreducible] Code.wpIn roundPost bodyPostM runL Ret Meets Begin

theorem CloneSP_spec (p : Nat) (ys : List PgSP) : Ctr Tryz.prog 59 [.pointer (some ⟨p, 0, none⟩)] [SetASP p ys]
    (fun v M => ∃ q, v = .pointer (some ⟨q, 0, none⟩) ∧ M = [SetASP p ys, SetASP q ys]) := by
  refine spec_of Tryz.func59 rfl Tryz.ntmps59 rfl fun w0 F => ?_
  repeat (first | refine g_endt ?_ | refine g_end ?_ | refine g_then ?_ | refine g_in_normal ?_ | refine g_then_ret ?_ | refine g_in_ret ?_ | refine g_then_exit ?_ | refine g_in_exit rfl ?_ | refine g_in_exit_ne (by decide) ?_ | refine g_seq ?_ | refine g_region ?_ | refine g_block ?_ | refine g_ret ?_ | refine g_return_n ?_ | refine g_exit ?_ | refine g_skip ?_)
  refine o_assign ?_
  first | refine g_endt ?_ | refine g_end ?_
  repeat (first | refine g_endt ?_ | refine g_end ?_ | refine g_then ?_ | refine g_in_normal ?_ | refine g_then_ret ?_ | refine g_in_ret ?_ | refine g_then_exit ?_ | refine g_in_exit rfl ?_ | refine g_in_exit_ne (by decide) ?_ | refine g_seq ?_ | refine g_region ?_ | refine g_block ?_ | refine g_ret ?_ | refine g_return_n ?_ | refine g_exit ?_ | refine g_skip ?_)
  refine o_move ?_
  refine o_peql rfl ?_
  first | refine g_endt ?_ | refine g_end ?_
  first | refine g_seq (g_cond_f rfl (rfl) ?_) | refine g_cond_f rfl (rfl) ?_
  repeat (first | refine g_endt ?_ | refine g_end ?_ | refine g_then ?_ | refine g_in_normal ?_ | refine g_then_ret ?_ | refine g_in_ret ?_ | refine g_then_exit ?_ | refine g_in_exit rfl ?_ | refine g_in_exit_ne (by decide) ?_ | refine g_seq ?_ | refine g_region ?_ | refine g_block ?_ | refine g_ret ?_ | refine g_return_n ?_ | refine g_exit ?_ | refine g_skip ?_)
  refine openSP p ys fun S c b => ?_
  refine o_move ?_
  refine o_nil rfl ?_
  refine o_field rfl ?_
  refine o_store (v := .bool true) rfl rfl rfl rfl rfl ?_
  refine g_endt ?_
  refine G.norm p #[.slice S ys.length c, .bool true] rfl ?_
  refine G.bring [row 84 PgSP.enc 7 b S c ys] ?_
  refine G.see1 ?_
  repeat (first | refine g_endt ?_ | refine g_end ?_ | refine g_then ?_ | refine g_in_normal ?_ | refine g_then_ret ?_ | refine g_in_ret ?_ | refine g_then_exit ?_ | refine g_in_exit rfl ?_ | refine g_in_exit_ne (by decide) ?_ | refine g_seq ?_ | refine g_region ?_ | refine g_block ?_ | refine g_ret ?_ | refine g_return_n ?_ | refine g_exit ?_ | refine g_skip ?_)
  refine o_move ?_
  refine o_nil rfl ?_
  refine o_field rfl ?_
  refine o_load1 (v := .slice S ys.length c) rfl rfl ?_
  refine o_build (.agg #[.slice S ys.length c, .bool true]) (fun w => by kernel_rfl) ?_
  refine o_boxc #[.slice S ys.length c, .bool true] rfl rfl fun q => ?_
  refine o_assign ?_
  refine g_endt ?_
  refine G.dup (psl PgSP.enc 7 S ys) ?_
  refine shutTSP q ys S c rfl ?_
  refine shutTSP p ys S c rfl ?_
  repeat (first | refine g_endt ?_ | refine g_end ?_ | refine g_then ?_ | refine g_in_normal ?_ | refine g_then_ret ?_ | refine g_in_ret ?_ | refine g_then_exit ?_ | refine g_in_exit rfl ?_ | refine g_in_exit_ne (by decide) ?_ | refine g_seq ?_ | refine g_region ?_ | refine g_block ?_ | refine g_ret ?_ | refine g_return_n ?_ | refine g_exit ?_ | refine g_skip ?_)
  exact ret1 (K := [SetASP p ys, SetASP q ys]) rfl (resT rfl) ⟨q, rfl, rfl⟩
end Go.Proofs.YtonaccfoelgpnaaGreat
/- An ordered map's functions, for one type of keys and one of values: another map with the same keys and values. -/
namespace Go.Proofs.YtonaccfoelgpnaaGreat
open Go Go.Sl
attribute [local irreducible] Code.wpIn roundPost bodyPostM runL Ret Meets Begin

theorem CloneMSP_spec (m : Nat) (ys : List PgSP) : Ctr Tryz.prog 33 [.pointer (some ⟨m, 0, none⟩)] [MapASP m ys]
    (fun v M => ∃ c, v = .pointer (some ⟨c, 0, none⟩) ∧ M = [MapASP m ys, MapASP c ys]) := by
  refine spec_of Tryz.func33 rfl Tryz.ntmps33 rfl fun w0 F => ?_
  repeat (first | refine g_endt ?_ | refine g_end ?_ | refine g_then ?_ | refine g_in_normal ?_ | refine g_then_ret ?_ | refine g_in_ret ?_ | refine g_then_exit ?_ | refine g_in_exit rfl ?_ | refine g_in_exit_ne (by decide) ?_ | refine g_seq ?_ | refine g_region ?_ | refine g_block ?_ | refine g_ret ?_ | refine g_return_n ?_ | refine g_exit ?_ | refine g_skip ?_)
  refine o_assign ?_
  first | refine g_endt ?_ | refine g_end ?_
  repeat (first | refine g_endt ?_ | refine g_end ?_ | refine g_then ?_ | refine g_in_normal ?_ | refine g_then_ret ?_ | refine g_in_ret ?_ | refine g_then_exit ?_ | refine g_in_exit rfl ?_ | refine g_in_exit_ne (by decide) ?_ | refine g_seq ?_ | refine g_region ?_ | refine g_block ?_ | refine g_ret ?_ | refine g_return_n ?_ | refine g_exit ?_ | refine g_skip ?_)
  refine o_move ?_
  refine o_peql rfl ?_
  first | refine g_endt ?_ | refine g_end ?_
  first | refine g_seq (g_cond_f rfl (rfl) ?_) | refine g_cond_f rfl (rfl) ?_
  repeat (first | refine g_endt ?_ | refine g_end ?_ | refine g_then ?_ | refine g_in_normal ?_ | refine g_then_ret ?_ | refine g_in_ret ?_ | refine g_then_exit ?_ | refine g_in_exit rfl ?_ | refine g_in_exit_ne (by decide) ?_ | refine g_seq ?_ | refine g_region ?_ | refine g_block ?_ | refine g_ret ?_ | refine g_return_n ?_ | refine g_exit ?_ | refine g_skip ?_)
  refine openMSP m ys fun p => ?_
  refine o_move ?_
  refine o_nil rfl ?_
  refine o_field rfl ?_
  refine o_load1 (v := .pointer (some ⟨p, 0, none⟩)) rfl rfl ?_
  refine o_call (CloneSP_spec p ys) rfl rfl ?_
  rintro _ _ ⟨q, rfl, rfl⟩
  refine o_build (.agg #[.pointer (some ⟨q, 0, none⟩)]) (fun w => by kernel_rfl) ?_
  refine o_boxc #[.pointer (some ⟨q, 0, none⟩)] rfl rfl fun c => ?_
  refine o_assign ?_
  refine g_endt ?_
  refine shutMSP c q ys ?_
  refine shutMSP m p ys ?_
  repeat (first | refine g_endt ?_ | refine g_end ?_ | refine g_then ?_ | refine g_in_normal ?_ | refine g_then_ret ?_ | refine g_in_ret ?_ | refine g_then_exit ?_ | refine g_in_exit rfl ?_ | refine g_in_exit_ne (by decide) ?_ | refine g_seq ?_ | refine g_region ?_ | refine g_block ?_ | refine g_ret ?_ | refine g_return_n ?_ | refine g_exit ?_ | refine g_skip ?_)
  exact ret1 (K := [MapASP m ys, MapASP c ys]) rfl (resT rfl) ⟨c, rfl, rfl⟩
end Go.Proofs.YtonaccfoelgpnaaGreat
/- Preference memory: cut, kept, cloned, told whole. -/
namespace Go.Proofs.YtonaccfoelgpnaaGreat
open Go Go.Sl
attribute [local irreducible] Exit.then Exit.inBlock Code.wpIn roundPost bodyPostM runL Ret Meets MeetsD Begin

/-! ### Cut -/
abbrev cIn (c : Nat) (k : Int) : SProp := cellsB c #[.int .i64 k] 3
def cutG (lv : Int) (p : PrefD) : Bool := decide (p.level ≥ lv)
theorem Cut1_spec (b : Nat) (lv : Int) (p : PrefD) : Ctr Tryz.prog 54 [p.val, .pointer (some ⟨b, 0, none⟩)] [cIn b lv] (fun v M => v = .bool (cutG lv p) ∧ M = [cIn b lv]) := by
  refine spec_of Tryz.func54 rfl Tryz.ntmps54 rfl fun w0 F => ?_
  -- hide
  -- (*ponder/pref.Memory).Cut$1
  repeat (first | refine g_endt ?_ | refine g_end ?_ | refine g_then ?_ | refine g_in_normal ?_ | refine g_then_ret ?_ | refine g_in_ret ?_ | refine g_then_exit ?_ | refine g_in_exit rfl ?_ | refine g_in_exit_ne (by decide) ?_ | refine g_seq ?_ | refine g_region ?_ | refine g_block ?_ | refine g_ret ?_ | refine g_return_n ?_ | refine g_exit ?_ | refine g_skip ?_)
  refine g_hideR fun Q_ hQ_ => ?_
  refine o_boxc p.val.cells rfl rfl fun q => ?_
  refine o_assign ?_
  refine g_end (G.imp (hQ_ .normal _) ?_)
  clear hQ_ Q_
  try refine g_then ?_
  repeat (first | refine g_endt ?_ | refine g_end ?_ | refine g_then ?_ | refine g_in_normal ?_ | refine g_then_ret ?_ | refine g_in_ret ?_ | refine g_then_exit ?_ | refine g_in_exit rfl ?_ | refine g_in_exit_ne (by decide) ?_ | refine g_seq ?_ | refine g_region ?_ | refine g_block ?_ | refine g_ret ?_ | refine g_return_n ?_ | refine g_exit ?_ | refine g_skip ?_)
  refine g_hideR fun Q_ hQ_ => ?_
  first | refine o_field rfl ?_ | refine o_fieldR rfl (by omega) ?_
  refine o_load1 (v := .int .i64 p.level) rfl rfl ?_
  refine o_load1 (v := .int .i64 lv) rfl rfl ?_
  refine o_geq (a := p.level) (b := lv) rfl rfl ?_
  refine o_assign ?_
  refine g_end (G.imp (hQ_ .normal _) ?_)
  clear hQ_ Q_
  try refine g_then ?_
  repeat (first | refine g_endt ?_ | refine g_end ?_ | refine g_then ?_ | refine g_in_normal ?_ | refine g_then_ret ?_ | refine g_in_ret ?_ | refine g_then_exit ?_ | refine g_in_exit rfl ?_ | refine g_in_exit_ne (by decide) ?_ | refine g_seq ?_ | refine g_region ?_ | refine g_block ?_ | refine g_ret ?_ | refine g_return_n ?_ | refine g_exit ?_ | refine g_skip ?_)
  exact ret1 (K := [cIn b lv]) rfl (resT rfl) ⟨rfl, rfl⟩
theorem Cut17_spec (m : Nat) (room : Int) (ps : List PrefD) (hp : ps.length ≤ 10000) (lv : Int) {v0 : Int} {os : List PrefD} (h : goneR ps (cutG lv) = os) (h2 : ((ps.length - os.length : Nat) : Int) = v0) :
    Ctr Tryz.prog 25 [.pointer (some ⟨m, 0, none⟩), .int .i64 lv] [MemP m room ps] (fun v M => v = .int .i64 v0 ∧ M = [MemP m room os]) := by
  subst h; subst h2
  refine spec_of Tryz.func25 rfl Tryz.ntmps25 rfl fun w0 F => ?_
  -- hide
  -- (*ponder/pref.Memory).Cut
  repeat (first | refine g_endt ?_ | refine g_end ?_ | refine g_then ?_ | refine g_in_normal ?_ | refine g_then_ret ?_ | refine g_in_ret ?_ | refine g_then_exit ?_ | refine g_in_exit rfl ?_ | refine g_in_exit_ne (by decide) ?_ | refine g_seq ?_ | refine g_region ?_ | refine g_block ?_ | refine g_ret ?_ | refine g_return_n ?_ | refine g_exit ?_ | refine g_skip ?_)
  refine g_hideR fun Q_ hQ_ => ?_
  refine o_boxc #[.int .i64 lv] rfl rfl fun b => ?_
  refine o_assign ?_
  refine g_end (G.imp (hQ_ .normal _) ?_)
  clear hQ_ Q_
  try refine g_then ?_
  repeat (first | refine g_endt ?_ | refine g_end ?_ | refine g_then ?_ | refine g_in_normal ?_ | refine g_then_ret ?_ | refine g_in_ret ?_ | refine g_then_exit ?_ | refine g_in_exit rfl ?_ | refine g_in_exit_ne (by decide) ?_ | refine g_seq ?_ | refine g_region ?_ | refine g_block ?_ | refine g_ret ?_ | refine g_return_n ?_ | refine g_exit ?_ | refine g_skip ?_)
  refine g_hideR fun Q_ hQ_ => ?_
  refine o_move ?_
  refine o_func ?_
  refine o_call (without_spec m room ps hp 54 [.pointer (some ⟨b, 0, none⟩)] (cutG lv) [cIn b lv] (fun p _ => Cut1_spec b lv p)) rfl rfl ?_
  rintro _ _ ⟨rfl, rfl⟩
  refine o_assign ?_
  refine g_end (G.imp (hQ_ .normal _) ?_)
  clear hQ_ Q_
  try refine g_then ?_
  repeat (first | refine g_endt ?_ | refine g_end ?_ | refine g_then ?_ | refine g_in_normal ?_ | refine g_then_ret ?_ | refine g_in_ret ?_ | refine g_then_exit ?_ | refine g_in_exit rfl ?_ | refine g_in_exit_ne (by decide) ?_ | refine g_seq ?_ | refine g_region ?_ | refine g_block ?_ | refine g_ret ?_ | refine g_return_n ?_ | refine g_exit ?_ | refine g_skip ?_)
  exact ret1 (K := [MemP m room (goneR ps (cutG lv))]) rfl (resT rfl) ⟨rfl, rfl⟩
/-! ### Kept -/
abbrev cFs (b : Nat) (gf : FuncId) (lb : List Value) : SProp := cellsB b #[.func (.func gf) #[] lb.toArray] 72
theorem Keep1_spec (b : Nat) (gf : FuncId) (lb : List Value) (g : Bool) (Ks : List SProp) [En Tryz.prog gf] (p : PrefD) (hg : Ctr Tryz.prog gf (p.id.val :: lb) Ks (fun v M => v = .bool g ∧ M = Ks)) :
    Ctr Tryz.prog 55 [p.val, .pointer (some ⟨b, 0, none⟩)] (cFs b gf lb :: Ks) (fun v M => v = .bool (!g) ∧ M = cFs b gf lb :: Ks) := by
  refine spec_of Tryz.func55 rfl Tryz.ntmps55 rfl fun w0 F => ?_
  -- hide
  -- (*ponder/pref.Memory).Keep$1
  repeat (first | refine g_endt ?_ | refine g_end ?_ | refine g_then ?_ | refine g_in_normal ?_ | refine g_then_ret ?_ | refine g_in_ret ?_ | refine g_then_exit ?_ | refine g_in_exit rfl ?_ | refine g_in_exit_ne (by decide) ?_ | refine g_seq ?_ | refine g_region ?_ | refine g_block ?_ | refine g_ret ?_ | refine g_return_n ?_ | refine g_exit ?_ | refine g_skip ?_)
  refine g_hideR fun Q_ hQ_ => ?_
  refine o_boxc p.val.cells rfl rfl fun q => ?_
  refine o_assign ?_
  refine g_end (G.imp (hQ_ .normal _) ?_)
  clear hQ_ Q_
  try refine g_then ?_
  repeat (first | refine g_endt ?_ | refine g_end ?_ | refine g_then ?_ | refine g_in_normal ?_ | refine g_then_ret ?_ | refine g_in_ret ?_ | refine g_then_exit ?_ | refine g_in_exit rfl ?_ | refine g_in_exit_ne (by decide) ?_ | refine g_seq ?_ | refine g_region ?_ | refine g_block ?_ | refine g_ret ?_ | refine g_return_n ?_ | refine g_exit ?_ | refine g_skip ?_)
  refine g_hideR fun Q_ hQ_ => ?_
  refine o_load1 (v := .func (.func gf) #[] lb.toArray) rfl rfl ?_
  first | refine o_field rfl ?_ | refine o_fieldR rfl (by omega) ?_
  refine o_loadN (v := p.id.val) rfl rfl rfl ?_
  refine o_callc hg rfl rfl rfl ?_
  rintro _ Ks ⟨rfl, rfl⟩
  refine o_not rfl ?_
  refine o_assign ?_
  refine g_end (G.imp (hQ_ .normal _) ?_)
  clear hQ_ Q_
  try refine g_then ?_
  repeat (first | refine g_endt ?_ | refine g_end ?_ | refine g_then ?_ | refine g_in_normal ?_ | refine g_then_ret ?_ | refine g_in_ret ?_ | refine g_then_exit ?_ | refine g_in_exit rfl ?_ | refine g_in_exit_ne (by decide) ?_ | refine g_seq ?_ | refine g_region ?_ | refine g_block ?_ | refine g_ret ?_ | refine g_return_n ?_ | refine g_exit ?_ | refine g_skip ?_)
  exact ret1 (K := cFs b gf lb :: Ks) rfl (resT rfl) ⟨rfl, rfl⟩
theorem Keep17_spec (m : Nat) (room : Int) (ps : List PrefD) (hp : ps.length ≤ 10000) (gf : FuncId) (lb : List Value) (g : PrefD → Bool) (Ks : List SProp) [En Tryz.prog gf] (hg : ∀ p ∈ ps, Ctr Tryz.prog gf (p.id.val :: lb) Ks (fun v M => v = .bool (g p) ∧ M = Ks))
    {v0 : Int} {os : List PrefD} (h : goneR ps (fun p => !g p) = os) (h2 : ((ps.length - os.length : Nat) : Int) = v0) :
    Ctr Tryz.prog 28 [.pointer (some ⟨m, 0, none⟩), .func (.func gf) #[] lb.toArray] (MemP m room ps :: Ks) (fun v M => v = .int .i64 v0 ∧ M = MemP m room os :: Ks) := by
  subst h; subst h2
  refine spec_of Tryz.func28 rfl Tryz.ntmps28 rfl fun w0 F => ?_
  -- hide
  -- (*ponder/pref.Memory).Keep
  repeat (first | refine g_endt ?_ | refine g_end ?_ | refine g_then ?_ | refine g_in_normal ?_ | refine g_then_ret ?_ | refine g_in_ret ?_ | refine g_then_exit ?_ | refine g_in_exit rfl ?_ | refine g_in_exit_ne (by decide) ?_ | refine g_seq ?_ | refine g_region ?_ | refine g_block ?_ | refine g_ret ?_ | refine g_return_n ?_ | refine g_exit ?_ | refine g_skip ?_)
  refine g_hideR fun Q_ hQ_ => ?_
  refine o_boxc #[.func (.func gf) #[] lb.toArray] rfl rfl fun b => ?_
  refine o_assign ?_
  refine g_end (G.imp (hQ_ .normal _) ?_)
  clear hQ_ Q_
  try refine g_then ?_
  repeat (first | refine g_endt ?_ | refine g_end ?_ | refine g_then ?_ | refine g_in_normal ?_ | refine g_then_ret ?_ | refine g_in_ret ?_ | refine g_then_exit ?_ | refine g_in_exit rfl ?_ | refine g_in_exit_ne (by decide) ?_ | refine g_seq ?_ | refine g_region ?_ | refine g_block ?_ | refine g_ret ?_ | refine g_return_n ?_ | refine g_exit ?_ | refine g_skip ?_)
  refine g_hideR fun Q_ hQ_ => ?_
  refine o_move ?_
  refine o_func ?_
  refine o_call (without_spec m room ps hp 55 [.pointer (some ⟨b, 0, none⟩)] (fun p => !g p) (cFs b gf lb :: Ks) (fun p hm => Keep1_spec b gf lb (g p) Ks p (hg p hm))) rfl rfl ?_
  rintro _ _ ⟨rfl, rfl⟩
  refine o_assign ?_
  refine g_end (G.imp (hQ_ .normal _) ?_)
  clear hQ_ Q_
  try refine g_then ?_
  repeat (first | refine g_endt ?_ | refine g_end ?_ | refine g_then ?_ | refine g_in_normal ?_ | refine g_then_ret ?_ | refine g_in_ret ?_ | refine g_then_exit ?_ | refine g_in_exit rfl ?_ | refine g_in_exit_ne (by decide) ?_ | refine g_seq ?_ | refine g_region ?_ | refine g_block ?_ | refine g_ret ?_ | refine g_return_n ?_ | refine g_exit ?_ | refine g_skip ?_)
  exact ret1 (K := MemP m room (goneR ps (fun p => !g p)) :: Ks) rfl (resT rfl) ⟨rfl, rfl⟩
/-! ### Told whole -/
theorem AllT1_spec (m : Nat) (room : Int) (ps : List PrefD) (b1 : Nat) : Ctr Tryz.prog 35 [.pointer (some ⟨b1, 0, none⟩)] [pM b1 m, MemP m room ps]
    (fun v M => ∃ S c, v = .slice S ps.length c ∧ M = psl encP 16 S ps :: [pM b1 m, MemP m room ps]) := by
  refine spec_of Tryz.func35 rfl Tryz.ntmps35 rfl fun w0 F => ?_
  -- hide
  -- (*ponder/pref.Memory).All$1
  refine openMm m room ps fun a c0 mp zs hI => ?_
  repeat (first | refine g_endt ?_ | refine g_end ?_ | refine g_then ?_ | refine g_in_normal ?_ | refine g_then_ret ?_ | refine g_in_ret ?_ | refine g_then_exit ?_ | refine g_in_exit rfl ?_ | refine g_in_exit_ne (by decide) ?_ | refine g_seq ?_ | refine g_region ?_ | refine g_block ?_ | refine g_ret ?_ | refine g_return_n ?_ | refine g_exit ?_ | refine g_skip ?_)
  refine g_hideR fun Q_ hQ_ => ?_
  refine o_assign ?_
  refine g_end (G.imp (hQ_ .normal _) ?_)
  clear hQ_ Q_
  try refine g_then ?_
  repeat (first | refine g_endt ?_ | refine g_end ?_ | refine g_then ?_ | refine g_in_normal ?_ | refine g_then_ret ?_ | refine g_in_ret ?_ | refine g_then_exit ?_ | refine g_in_exit rfl ?_ | refine g_in_exit_ne (by decide) ?_ | refine g_seq ?_ | refine g_region ?_ | refine g_block ?_ | refine g_ret ?_ | refine g_return_n ?_ | refine g_exit ?_ | refine g_skip ?_)
  refine g_hideR fun Q_ hQ_ => ?_
  refine o_load1 (v := .pointer (some ⟨m, 0, none⟩)) rfl rfl ?_
  refine o_nil rfl ?_
  first | refine o_field rfl ?_ | refine o_fieldR rfl (by omega) ?_
  refine o_load1 (v := .slice a ps.length c0) rfl rfl ?_
  refine o_assign ?_
  refine g_end (G.imp (hQ_ .normal _) ?_)
  clear hQ_ Q_
  try refine g_then ?_
  refine G.dup (psl encP 16 a ps) ?_
  refine shutMm m room ps a c0 mp zs hI rfl ?_
  repeat (first | refine g_endt ?_ | refine g_end ?_ | refine g_then ?_ | refine g_in_normal ?_ | refine g_then_ret ?_ | refine g_in_ret ?_ | refine g_then_exit ?_ | refine g_in_exit rfl ?_ | refine g_in_exit_ne (by decide) ?_ | refine g_seq ?_ | refine g_region ?_ | refine g_block ?_ | refine g_ret ?_ | refine g_return_n ?_ | refine g_exit ?_ | refine g_skip ?_)
  exact ret1 (K := psl encP 16 a ps :: [pM b1 m, MemP m room ps]) rfl (resT (v := .slice a ps.length c0) rfl) ⟨a, c0, rfl, rfl⟩
abbrev allK (m b b1 : Nat) : List SProp := [pFn b 35 [.pointer (some ⟨b1, 0, none⟩)], pM b1 m]
theorem All17_spec (m : Nat) : Ctr Tryz.prog 12 [.pointer (some ⟨m, 0, none⟩)] []
    (fun v M => ∃ b b1, v = .func (.func 60) #[] #[.pointer (some ⟨b, 0, none⟩)] ∧ M = allK m b b1) := by
  refine spec_of Tryz.func12 rfl Tryz.ntmps12 rfl fun w0 F => ?_
  -- hide
  -- (*ponder/pref.Memory).All
  repeat (first | refine g_endt ?_ | refine g_end ?_ | refine g_then ?_ | refine g_in_normal ?_ | refine g_then_ret ?_ | refine g_in_ret ?_ | refine g_then_exit ?_ | refine g_in_exit rfl ?_ | refine g_in_exit_ne (by decide) ?_ | refine g_seq ?_ | refine g_region ?_ | refine g_block ?_ | refine g_ret ?_ | refine g_return_n ?_ | refine g_exit ?_ | refine g_skip ?_)
  refine o_boxc #[.pointer (some ⟨m, 0, none⟩)] rfl rfl fun b1 => G.freeze <| ?_
  refine o_assign ?_
  first | refine g_endt ?_ | refine g_end ?_
  repeat (first | refine g_endt ?_ | refine g_end ?_ | refine g_then ?_ | refine g_in_normal ?_ | refine g_then_ret ?_ | refine g_in_ret ?_ | refine g_then_exit ?_ | refine g_in_exit rfl ?_ | refine g_in_exit_ne (by decide) ?_ | refine g_seq ?_ | refine g_region ?_ | refine g_block ?_ | refine g_ret ?_ | refine g_return_n ?_ | refine g_exit ?_ | refine g_skip ?_)
  refine o_func ?_
  refine o_call (told_spec 35 [.pointer (some ⟨b1, 0, none⟩)]) rfl rfl ?_
  rintro _ _ ⟨b, rfl, rfl⟩
  refine o_assign ?_
  first | refine g_endt ?_ | refine g_end ?_
  repeat (first | refine g_endt ?_ | refine g_end ?_ | refine g_then ?_ | refine g_in_normal ?_ | refine g_then_ret ?_ | refine g_in_ret ?_ | refine g_then_exit ?_ | refine g_in_exit rfl ?_ | refine g_in_exit_ne (by decide) ?_ | refine g_seq ?_ | refine g_region ?_ | refine g_block ?_ | refine g_ret ?_ | refine g_return_n ?_ | refine g_exit ?_ | refine g_skip ?_)
  exact ret1 (K := allK m b b1) rfl (resT rfl) ⟨b, b1, rfl, rfl⟩
theorem ListAll17_spec (m : Nat) (room : Int) (ps : List PrefD) (hp : ps.length ≤ 90000) (b b1 : Nat) : Ctr Tryz.prog 11 [.func (.func 60) #[] #[.pointer (some ⟨b, 0, none⟩)]] (allK m b b1 ++ [MemP m room ps])
    (fun v M => ∃ S c, v = .slice S ps.length c ∧ M = osl 41 encP 16 S c ps :: (allK m b b1 ++ [MemP m room ps])) :=
  ListP_spec 60 [.pointer (some ⟨b, 0, none⟩)] ps rfl (by omega) (allK m b b1 ++ [MemP m room ps]) (fun K => told1_iter b 35 [.pointer (some ⟨b1, 0, none⟩)] ps (by omega) [pM b1 m, MemP m room ps] (AllT1_spec m room ps b1) _)
/-! ### Cloned -/
set_option maxHeartbeats 1000000 in
theorem Clone17_spec (m : Nat) (room : Int) (ps : List PrefD) (hp : ps.length ≤ 10000) : Ctr Tryz.prog 9 [.pointer (some ⟨m, 0, none⟩)] [MemP m room ps] (fun v M => ∃ k, v = .pointer (some ⟨k, 0, none⟩) ∧ M = [MemP m room ps, MemP k room ps]) := by
  refine spec_of Tryz.func9 rfl Tryz.ntmps9 rfl fun w0 F => ?_
  -- hide
  -- (*ponder/pref.Memory).Clone
  refine openMm m room ps fun a c0 mp zs hI => ?_
  refine G.nil_slice (α := PrefD) 41 encP 16 ?_
  repeat (first | refine g_endt ?_ | refine g_end ?_ | refine g_then ?_ | refine g_in_normal ?_ | refine g_then_ret ?_ | refine g_in_ret ?_ | refine g_then_exit ?_ | refine g_in_exit rfl ?_ | refine g_in_exit_ne (by decide) ?_ | refine g_seq ?_ | refine g_region ?_ | refine g_block ?_ | refine g_ret ?_ | refine g_return_n ?_ | refine g_exit ?_ | refine g_skip ?_)
  refine g_hideR fun Q_ hQ_ => ?_
  refine o_assign ?_
  refine g_end (G.imp (hQ_ .normal _) ?_)
  clear hQ_ Q_
  try refine g_then ?_
  repeat (first | refine g_endt ?_ | refine g_end ?_ | refine g_then ?_ | refine g_in_normal ?_ | refine g_then_ret ?_ | refine g_in_ret ?_ | refine g_then_exit ?_ | refine g_in_exit rfl ?_ | refine g_in_exit_ne (by decide) ?_ | refine g_seq ?_ | refine g_region ?_ | refine g_block ?_ | refine g_ret ?_ | refine g_return_n ?_ | refine g_exit ?_ | refine g_skip ?_)
  refine g_hide fun Q_ hQ_ => ?_
  refine g_draw [8,13,14,15] [0,1,2,3,4,5,6,7,9,10,11,12,8,13,14,15,16] [mC m room a ps.length c0 mp] mixed rfl ?_
  refine ob_q rfl rfl ⟨_, fun X Q h => o_move (g_end (h _ _ ⟨rfl, rfl⟩)), ?_⟩
  refine ob_q rfl rfl ⟨_, fun X Q h => o_nil rfl (g_end (h _ _ ⟨rfl, rfl⟩)), ?_⟩
  first | refine ob_q rfl rfl ⟨_, fun X Q h => o_field rfl (g_end (h _ _ ⟨rfl, rfl⟩)), ?_⟩ | refine ob_q rfl rfl ⟨_, fun X Q h => o_fieldR rfl (by omega) (g_end (h _ _ ⟨rfl, rfl⟩)), ?_⟩
  refine ob_q rfl rfl ⟨_, fun X Q h => o_load1 (v := .int .i64 room) rfl rfl (g_end (h _ _ ⟨rfl, rfl⟩)), ?_⟩
  refine ob_q rfl rfl ⟨_, fun X Q h => o_move (g_end (h _ _ ⟨rfl, rfl⟩)), ?_⟩
  refine ob_q rfl rfl ⟨_, fun X Q h => o_nil rfl (g_end (h _ _ ⟨rfl, rfl⟩)), ?_⟩
  first | refine ob_q rfl rfl ⟨_, fun X Q h => o_field rfl (g_end (h _ _ ⟨rfl, rfl⟩)), ?_⟩ | refine ob_q rfl rfl ⟨_, fun X Q h => o_fieldR rfl (by omega) (g_end (h _ _ ⟨rfl, rfl⟩)), ?_⟩
  refine ob_q rfl rfl ⟨_, fun X Q h => o_load1 (v := .slice a ps.length c0) rfl rfl (g_end (h _ _ ⟨rfl, rfl⟩)), ?_⟩
  refine ob_q rfl rfl ⟨_, fun X Q h => o_move (g_end (h _ _ ⟨rfl, rfl⟩)), ?_⟩
  refine ob_q rfl rfl ⟨_, fun X Q h => o_nil rfl (g_end (h _ _ ⟨rfl, rfl⟩)), ?_⟩
  first | refine ob_q rfl rfl ⟨_, fun X Q h => o_field rfl (g_end (h _ _ ⟨rfl, rfl⟩)), ?_⟩ | refine ob_q rfl rfl ⟨_, fun X Q h => o_fieldR rfl (by omega) (g_end (h _ _ ⟨rfl, rfl⟩)), ?_⟩
  refine ob_q rfl rfl ⟨_, fun X Q h => o_load1 (v := .pointer (some ⟨mp, 0, none⟩)) rfl rfl (g_end (h _ _ ⟨rfl, rfl⟩)), ?_⟩
  refine ob_l rfl rfl fun Qz hz => o_append0 (ys := ps) rfl rfl rfl rfl rfl (by simp [maxLen]; omega) (by omega) fun S1 c1 => ?_
  refine g_end (hz _ _ ⟨_, ob_fin, ?_⟩)
  clear hz Qz
  refine ob_l rfl rfl fun Qz hz => o_call (CloneMSP_spec mp zs) rfl rfl ?_
  rintro _ _ ⟨mq, rfl, rfl⟩
  refine g_end (hz _ _ ⟨_, ob_fin, ?_⟩)
  clear hz Qz
  refine ob_l rfl rfl fun Qz hz => o_build (.agg #[.int .i64 room, .slice S1 ps.length c1, .pointer (some ⟨mq, 0, none⟩)]) (fun w => by kernel_rfl) ?_
  refine g_end (hz _ _ ⟨_, ob_fin, ?_⟩)
  clear hz Qz
  refine ob_l rfl rfl fun Qz hz => o_boxc #[.int .i64 room, .slice S1 ps.length c1, .pointer (some ⟨mq, 0, none⟩)] rfl rfl fun k => ?_
  refine g_end (hz _ _ ⟨_, ob_fin, ?_⟩)
  clear hz Qz
  refine ob_q rfl rfl ⟨_, fun X Q h => o_assign (g_end (h _ _ ⟨rfl, rfl⟩)), ?_⟩
  refine ob_nil ?_
  refine G.imp (hQ_ .normal _) ?_
  clear hQ_ Q_
  try refine g_then ?_
  refine G.bring [osl 41 encP 16 S1 c1 ps] (G.frz ?_)
  refine G.dup (pslots zs ps) ?_
  refine shutMm m room ps a c0 mp zs hI rfl ?_
  refine shutMm k room ps S1 c1 mq zs hI rfl ?_
  repeat (first | refine g_endt ?_ | refine g_end ?_ | refine g_then ?_ | refine g_in_normal ?_ | refine g_then_ret ?_ | refine g_in_ret ?_ | refine g_then_exit ?_ | refine g_in_exit rfl ?_ | refine g_in_exit_ne (by decide) ?_ | refine g_seq ?_ | refine g_region ?_ | refine g_block ?_ | refine g_ret ?_ | refine g_return_n ?_ | refine g_exit ?_ | refine g_skip ?_)
  exact ret1 (K := [MemP m room ps, MemP k room ps]) rfl (resT rfl) ⟨k, rfl, rfl⟩
end Go.Proofs.YtonaccfoelgpnaaGreat
