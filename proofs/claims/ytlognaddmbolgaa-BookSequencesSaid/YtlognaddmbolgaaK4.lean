/- A list of symbols told; how often each stands in it, counted. -/
import Derived.Test.YtlognaddmbolgaaK3
import Derived.Test.YtlognaddmbolgaaMSI4
import Derived.Test.YtlognaddmbolgaaB0
namespace Go.Proofs.Ytlognaddmbolgaa
open Go Go.Sl
attribute [local irreducible] Code.wpIn roundPost bodyPostM runL Ret Meets Begin

def encS (s : SymD) : List Value := s.val.cells.toList
instance : EncLen encS 3 := ⟨fun _ => rfl, fun e u h => by simp [encS, SymD.val, Value.cells] at h; rcases h with h | h | h <;> subst h <;> rfl⟩
def encS1 (s : SymD) : List Value := [s.val]
theorem OfSym1_iter (b : Nat) (A : Option Addr) (len cap : Nat) (ys : List SymD) (hl : ys.length = len) (hm : len ≤ 9223372036854775807) (J0 : List SProp) [HasP J0 (pblk b (.cells #[.slice A len cap] 35 (0, 0)))] [HasP J0 (psl encS 3 A ys)] :
    Iter Try.prog 70 [.pointer (some ⟨b, 0, none⟩)] encS1 ys J0 := by
  intro l J Jx hJ hy
  refine spec_of Try.func70 rfl Try.ntmps70 rfl fun w0 F => ?_
  refine G.dup (pblk b (.cells #[.slice A len cap] 35 (0, 0))) ?_
  refine G.dup (psl encS 3 A ys) ?_
  subst hJ
  repeat (first | refine g_endt ?_ | refine g_end ?_ | refine g_then ?_ | refine g_in_normal ?_ | refine g_then_ret ?_ | refine g_in_ret ?_ | refine g_then_exit ?_ | refine g_in_exit rfl ?_ | refine g_in_exit_ne (by decide) ?_ | refine g_seq ?_ | refine g_region ?_ | refine g_block ?_ | refine g_ret ?_ | refine g_return_n ?_ | refine g_exit ?_ | refine g_skip ?_)
  refine o_assign ?_
  first | refine g_endt ?_ | refine g_end ?_
  repeat (first | refine g_endt ?_ | refine g_end ?_ | refine g_then ?_ | refine g_in_normal ?_ | refine g_then_ret ?_ | refine g_in_ret ?_ | refine g_then_exit ?_ | refine g_in_exit rfl ?_ | refine g_in_exit_ne (by decide) ?_ | refine g_seq ?_ | refine g_region ?_ | refine g_block ?_ | refine g_ret ?_ | refine g_return_n ?_ | refine g_exit ?_ | refine g_skip ?_)
  refine g_loop (σ := {i : Nat // i ≤ ys.length}) (S := fun i => [(0, .func (.yield l) #[] #[]), (1, .pointer (some ⟨b, 0, none⟩)), (3, .int .i64 ((i.1 : Nat) : Int))])
    (H := fun i => psl encS 3 A ys :: pblk b (.cells #[.slice A len cap] 35 (0, 0)) :: J (ys.take i.1)) (μ := fun i => ys.length - i.1) (s0 := ⟨0, Nat.zero_le _⟩) (Sat.mem ⟨rfl, rfl, rfl, trivial⟩) (t := by simp only [List.take_zero]; infer_instance) ?_
  rintro ⟨i, hi⟩ ρ'
  dsimp only
  repeat (first | refine g_endt ?_ | refine g_end ?_ | refine g_then ?_ | refine g_in_normal ?_ | refine g_then_ret ?_ | refine g_in_ret ?_ | refine g_then_exit ?_ | refine g_in_exit rfl ?_ | refine g_in_exit_ne (by decide) ?_ | refine g_seq ?_ | refine g_region ?_ | refine g_block ?_ | refine g_ret ?_ | refine g_return_n ?_ | refine g_exit ?_ | refine g_skip ?_)
  refine o_move ?_
  refine o_load1 rfl rfl ?_
  refine o_len rfl rfl ?_
  refine o_lss rfl rfl ?_
  first | refine g_endt ?_ | refine g_end ?_
  by_cases h : i < len
  · first | refine g_seq (g_cond_t rfl (by simpa using h) ?_) | refine g_cond_t rfl (by simpa using h) ?_
    have hi' : i < ys.length := by omega
    obtain ⟨y, hz⟩ : ∃ y, ys[i]? = some y := ⟨_, List.getElem?_eq_getElem hi'⟩
    have ht := take_snoc ys i _ hz
    repeat (first | refine g_endt ?_ | refine g_end ?_ | refine g_then ?_ | refine g_in_normal ?_ | refine g_then_ret ?_ | refine g_in_ret ?_ | refine g_then_exit ?_ | refine g_in_exit rfl ?_ | refine g_in_exit_ne (by decide) ?_ | refine g_seq ?_ | refine g_region ?_ | refine g_block ?_ | refine g_ret ?_ | refine g_return_n ?_ | refine g_exit ?_ | refine g_skip ?_)
    refine o_move ?_
    refine o_load1 (v := .slice A len cap) rfl rfl ?_
    refine o_move ?_
    refine o_indexR rfl rfl rfl hi' hl rfl ?_
    refine o_loadE (enc := encS) rfl rfl hz ?_
    have hp : (ys.take i ++ [y]) <+: ys := ⟨ys.drop (i + 1), by rw [← ht, List.take_append_drop]⟩
    refine o_yield (hy (ys.take i) y hp) rfl rfl ?_ ?_
    · refine o_not rfl ?_
      refine g_endt ?_
      refine g_cond_f rfl rfl ?_
      repeat (first | refine g_endt ?_ | refine g_end ?_ | refine g_then ?_ | refine g_in_normal ?_ | refine g_then_ret ?_ | refine g_in_ret ?_ | refine g_then_exit ?_ | refine g_in_exit rfl ?_ | refine g_in_exit_ne (by decide) ?_ | refine g_seq ?_ | refine g_region ?_ | refine g_block ?_ | refine g_ret ?_ | refine g_return_n ?_ | refine g_exit ?_ | refine g_skip ?_)
      refine o_move ?_
      refine o_add rfl rfl rfl (by omega) (by omega) ?_
      refine o_assign ?_
      first | refine g_endt ?_ | refine g_end ?_
      repeat (first | refine g_endt ?_ | refine g_end ?_ | refine g_then ?_ | refine g_in_normal ?_ | refine g_then_ret ?_ | refine g_in_ret ?_ | refine g_then_exit ?_ | refine g_in_exit rfl ?_ | refine g_in_exit_ne (by decide) ?_ | refine g_seq ?_ | refine g_region ?_ | refine g_block ?_ | refine g_ret ?_ | refine g_return_n ?_ | refine g_exit ?_ | refine g_skip ?_)
      exact g_meets ⟨i + 1, hi'⟩ (by show ys.length - (i + 1) < ys.length - i; omega) (Sat.mem ⟨rfl, rfl, rfl, trivial⟩) (t := by rw [ht]; infer_instance)
    · refine o_not rfl ?_
      refine g_endt ?_
      refine g_cond_t rfl rfl ?_
      repeat (first | refine g_endt ?_ | refine g_end ?_ | refine g_then ?_ | refine g_in_normal ?_ | refine g_then_ret ?_ | refine g_in_ret ?_ | refine g_then_exit ?_ | refine g_in_exit rfl ?_ | refine g_in_exit_ne (by decide) ?_ | refine g_seq ?_ | refine g_region ?_ | refine g_block ?_ | refine g_ret ?_ | refine g_return_n ?_ | refine g_exit ?_ | refine g_skip ?_)
      exact ret0 rfl (.inr ⟨_, hp, rfl⟩)
  · first | refine g_seq (g_cond_f rfl (by simpa using h) ?_) | refine g_cond_f rfl (by simpa using h) ?_
    repeat (first | refine g_endt ?_ | refine g_end ?_ | refine g_then ?_ | refine g_in_normal ?_ | refine g_then_ret ?_ | refine g_in_ret ?_ | refine g_then_exit ?_ | refine g_in_exit rfl ?_ | refine g_in_exit_ne (by decide) ?_ | refine g_seq ?_ | refine g_region ?_ | refine g_block ?_ | refine g_ret ?_ | refine g_return_n ?_ | refine g_exit ?_ | refine g_skip ?_)
    have he : ys.take i = ys := List.take_of_length_le (by omega)
    exact ret0 (K := J (ys.take i)) rfl (.inl (by rw [he]))
theorem OfSym_spec (A : Option Addr) (len cap : Nat) : Ctr Try.prog 37 [.slice A len cap] []
    (fun v M => ∃ b, v = .func (.func 70) #[] #[.pointer (some ⟨b, 0, none⟩)] ∧ M = [pblk b (.cells #[.slice A len cap] 35 (0, 0))]) := by
  refine spec_of Try.func37 rfl Try.ntmps37 rfl fun w0 F => ?_
  repeat (first | refine g_endt ?_ | refine g_end ?_ | refine g_then ?_ | refine g_in_normal ?_ | refine g_then_ret ?_ | refine g_in_ret ?_ | refine g_then_exit ?_ | refine g_in_exit rfl ?_ | refine g_in_exit_ne (by decide) ?_ | refine g_seq ?_ | refine g_region ?_ | refine g_block ?_ | refine g_ret ?_ | refine g_return_n ?_ | refine g_exit ?_ | refine g_skip ?_)
  refine o_boxc #[.slice A len cap] rfl rfl fun b => ?_
  refine G.freeze ?_
  refine o_assign ?_
  first | refine g_endt ?_ | refine g_end ?_
  repeat (first | refine g_endt ?_ | refine g_end ?_ | refine g_then ?_ | refine g_in_normal ?_ | refine g_then_ret ?_ | refine g_in_ret ?_ | refine g_then_exit ?_ | refine g_in_exit rfl ?_ | refine g_in_exit_ne (by decide) ?_ | refine g_seq ?_ | refine g_region ?_ | refine g_block ?_ | refine g_ret ?_ | refine g_return_n ?_ | refine g_exit ?_ | refine g_skip ?_)
  refine o_func ?_
  refine o_assign ?_
  first | refine g_endt ?_ | refine g_end ?_
  repeat (first | refine g_endt ?_ | refine g_end ?_ | refine g_then ?_ | refine g_in_normal ?_ | refine g_then_ret ?_ | refine g_in_ret ?_ | refine g_then_exit ?_ | refine g_in_exit rfl ?_ | refine g_in_exit_ne (by decide) ?_ | refine g_seq ?_ | refine g_region ?_ | refine g_block ?_ | refine g_ret ?_ | refine g_return_n ?_ | refine g_exit ?_ | refine g_skip ?_)
  exact ret1 rfl (resT rfl) ⟨b, rfl, rfl⟩
def CntA (m : Nat) (pre : List SymD) : SProp := ex fun ys => sl [pu (CntI pre ys), MapASI m ys]
section
variable {w0 : World} {A : SProp} {L M : List SProp} {Φ : World → Prop}
theorem openC (m : Nat) (pre : List SymD) [tk : Take1 L (CntA m pre) M] (h : ∀ ys, CntI pre ys → G w0 A (MapASI m ys :: M) Φ) : G w0 A L Φ :=
  G.perm tk.perm (G.ex fun ys => G.open_sl (G.pu fun h' => h ys h'))
theorem shutC (m : Nat) (pre : List SymD) {ys : List PgSI} (hc : CntI pre ys) [tk : Take1 L (MapASI m ys) M] (h : G w0 A (CntA m pre :: M) Φ) : G w0 A L Φ :=
  G.perm tk.perm (G.pu_in hc (G.ent (L := [pu (CntI pre ys), MapASI m ys] ++ M) (L' := CntA m pre :: M) ((sl_append_to _ M).trans (Ent.star (show Ent _ (CntA m pre) from fun _ _ x => ⟨ys, x⟩) (Ent.refl _))) h))
end
theorem Count_spec (gf : FuncId) (lb : List Value) (xs : List SymD) (hl : xs.length ≤ 100000) (Ks : List SProp) [En Try.prog gf] (hnil : ∀ w, (eqGuard .eql 74 (.tmp 8) (.const .nilFunc) (.func (.func gf) #[] lb.toArray) .nilFunc).run Try.prog w = .ok () w)
    (hnil2 : ∀ w, (binOp .eql 74 (.func (.func gf) #[] lb.toArray) .nilFunc).run Try.prog w = .ok (.bool false) w) (hit : ∀ K, Iter Try.prog gf lb encS1 xs (K ++ Ks)) :
    Ctr Try.prog 36 [.func (.func gf) #[] lb.toArray] Ks (fun v M => ∃ m ys, v = .pointer (some ⟨m, 0, none⟩) ∧ M = [MapASI m ys] ∧ CntI xs ys) := by
  refine spec_of Try.func36 rfl Try.ntmps36 rfl fun w0 F => ?_
  repeat (first | refine g_endt ?_ | refine g_end ?_ | refine g_then ?_ | refine g_in_normal ?_ | refine g_then_ret ?_ | refine g_in_ret ?_ | refine g_then_exit ?_ | refine g_in_exit rfl ?_ | refine g_in_exit_ne (by decide) ?_ | refine g_seq ?_ | refine g_region ?_ | refine g_block ?_ | refine g_ret ?_ | refine g_return_n ?_ | refine g_exit ?_ | refine g_skip ?_)
  refine o_assign ?_
  first | refine g_endt ?_ | refine g_end ?_
  repeat (first | refine g_endt ?_ | refine g_end ?_ | refine g_then ?_ | refine g_in_normal ?_ | refine g_then_ret ?_ | refine g_in_ret ?_ | refine g_then_exit ?_ | refine g_in_exit rfl ?_ | refine g_in_exit_ne (by decide) ?_ | refine g_seq ?_ | refine g_region ?_ | refine g_block ?_ | refine g_ret ?_ | refine g_return_n ?_ | refine g_exit ?_ | refine g_skip ?_)
  refine o_call NewMSI_spec rfl rfl ?_
  rintro _ _ ⟨m, rfl, rfl⟩
  refine o_alloc fun q => ?_
  refine o_store (v := .pointer (some ⟨m, 0, none⟩)) rfl rfl rfl rfl rfl ?_
  refine g_endt ?_
  refine G.norm q #[.pointer (some ⟨m, 0, none⟩)] rfl ?_
  repeat (first | refine g_endt ?_ | refine g_end ?_ | refine g_then ?_ | refine g_in_normal ?_ | refine g_then_ret ?_ | refine g_in_ret ?_ | refine g_then_exit ?_ | refine g_in_exit rfl ?_ | refine g_in_exit_ne (by decide) ?_ | refine g_seq ?_ | refine g_region ?_ | refine g_block ?_ | refine g_ret ?_ | refine g_return_n ?_ | refine g_exit ?_ | refine g_skip ?_)
  refine o_move ?_
  refine o_fnil rfl hnil hnil2 ?_
  refine g_endt ?_
  first | refine g_seq (g_cond_f rfl (rfl) ?_) | refine g_cond_f rfl (rfl) ?_
  repeat (first | refine g_endt ?_ | refine g_end ?_ | refine g_then ?_ | refine g_in_normal ?_ | refine g_then_ret ?_ | refine g_in_ret ?_ | refine g_then_exit ?_ | refine g_in_exit rfl ?_ | refine g_in_exit_ne (by decide) ?_ | refine g_seq ?_ | refine g_region ?_ | refine g_block ?_ | refine g_ret ?_ | refine g_return_n ?_ | refine g_exit ?_ | refine g_skip ?_)
  refine o_move ?_
  refine g_endt ?_
  repeat (first | refine g_endt ?_ | refine g_end ?_ | refine g_then ?_ | refine g_in_normal ?_ | refine g_then_ret ?_ | refine g_in_ret ?_ | refine g_then_exit ?_ | refine g_in_exit rfl ?_ | refine g_in_exit_ne (by decide) ?_ | refine g_seq ?_ | refine g_region ?_ | refine g_block ?_ | refine g_ret ?_ | refine g_return_n ?_ | refine g_exit ?_ | refine g_skip ?_)
  refine shutC m [] CntI.nil ?_
  refine g_range (ps := [12]) (enc := encS1) (xs := xs) rfl (fun pre => [CntA m pre, cellsB q #[.pointer (some ⟨m, 0, none⟩)] 36] ++ Ks) (fun _ _ => [pu False])
    (fun K => hit [K, CntA m [], cellsB q #[.pointer (some ⟨m, 0, none⟩)] 36]) (fun _ => rfl) ?_ ?_ ?_
  · intro w0 F l r pre x hp
    have hlen : pre.length < xs.length := by
      obtain ⟨t, ht⟩ := hp
      have := congrArg List.length ht
      simp at this
      omega
    repeat (first | refine g_endt ?_ | refine g_end ?_ | refine g_then ?_ | refine g_in_normal ?_ | refine g_then_ret ?_ | refine g_in_ret ?_ | refine g_then_exit ?_ | refine g_in_exit rfl ?_ | refine g_in_exit_ne (by decide) ?_ | refine g_seq ?_ | refine g_region ?_ | refine g_block ?_ | refine g_ret ?_ | refine g_return_n ?_ | refine g_exit ?_ | refine g_skip ?_)
    refine o_alloc fun c => ?_
    refine o_store (v := x.val) rfl rfl rfl rfl rfl ?_
    refine g_endt ?_
    refine G.norm c x.val.cells rfl ?_
    repeat (first | refine g_endt ?_ | refine g_end ?_ | refine g_then ?_ | refine g_in_normal ?_ | refine g_then_ret ?_ | refine g_in_ret ?_ | refine g_then_exit ?_ | refine g_in_exit rfl ?_ | refine g_in_exit_ne (by decide) ?_ | refine g_seq ?_ | refine g_region ?_ | refine g_block ?_ | refine g_ret ?_ | refine g_return_n ?_ | refine g_exit ?_ | refine g_skip ?_)
    refine g_begin ?_
    repeat (first | refine g_endt ?_ | refine g_end ?_ | refine g_then ?_ | refine g_in_normal ?_ | refine g_then_ret ?_ | refine g_in_ret ?_ | refine g_then_exit ?_ | refine g_in_exit rfl ?_ | refine g_in_exit_ne (by decide) ?_ | refine g_seq ?_ | refine g_region ?_ | refine g_block ?_ | refine g_ret ?_ | refine g_return_n ?_ | refine g_exit ?_ | refine g_skip ?_)
    refine openC m pre fun ys hC => ?_
    refine o_load1 (v := .pointer (some ⟨m, 0, none⟩)) rfl rfl ?_
    refine o_loadN (v := x.val) rfl rfl rfl ?_
    have hyl : ys.length < 999999999 := by have := hC.len; omega
    refine o_call (GetMapSI_spec m ys x hC.srt (by omega)) rfl rfl ?_
    rintro _ _ ⟨rfl, rfl⟩
    have e : ((getM PgSI.cmp ys ⟨x, PgSI.zero.v⟩).getD PgSI.zero).v = (cnt pre x : Int) := by
      rw [hC.get]
      by_cases h0 : cnt pre x = 0
      · rw [if_pos h0, h0]; rfl
      · rw [if_neg h0]; rfl
    rw [e]
    have hcl : cnt pre x ≤ pre.length := List.countP_le_length
    refine o_move ?_
    refine o_extract rfl rfl ?_
    refine o_extract rfl rfl ?_
    refine o_assign ?_
    refine o_assign ?_
    refine g_endt ?_
    repeat (first | refine g_endt ?_ | refine g_end ?_ | refine g_then ?_ | refine g_in_normal ?_ | refine g_then_ret ?_ | refine g_in_ret ?_ | refine g_then_exit ?_ | refine g_in_exit rfl ?_ | refine g_in_exit_ne (by decide) ?_ | refine g_seq ?_ | refine g_region ?_ | refine g_block ?_ | refine g_ret ?_ | refine g_return_n ?_ | refine g_exit ?_ | refine g_skip ?_)
    refine o_load1 (v := .pointer (some ⟨m, 0, none⟩)) rfl rfl ?_
    refine o_loadN (v := x.val) rfl rfl rfl ?_
    refine o_move ?_
    refine o_add (c := (cnt pre x : Int) + 1) rfl rfl rfl (by omega) (by omega) ?_
    refine o_call (PutMSI_spec m ys x ((cnt pre x : Int) + 1) hC.srt hyl) rfl rfl ?_
    rintro _ M1 ⟨i, there, rfl, rfl, hk⟩
    refine g_end ?_
    refine shutC m (pre ++ [x]) (ys := putLSI ys x ((cnt pre x : Int) + 1) i there) (hC.step x hk) ?_
    repeat (first | refine g_endt ?_ | refine g_end ?_ | refine g_then ?_ | refine g_in_normal ?_ | refine g_then_ret ?_ | refine g_in_ret ?_ | refine g_then_exit ?_ | refine g_in_exit rfl ?_ | refine g_in_exit_ne (by decide) ?_ | refine g_seq ?_ | refine g_region ?_ | refine g_block ?_ | refine g_ret ?_ | refine g_return_n ?_ | refine g_exit ?_ | refine g_skip ?_)
    exact g_next
  · intro D
    repeat (first | refine g_endt ?_ | refine g_end ?_ | refine g_then ?_ | refine g_in_normal ?_ | refine g_then_ret ?_ | refine g_in_ret ?_ | refine g_then_exit ?_ | refine g_in_exit rfl ?_ | refine g_in_exit_ne (by decide) ?_ | refine g_seq ?_ | refine g_region ?_ | refine g_block ?_ | refine g_ret ?_ | refine g_return_n ?_ | refine g_exit ?_ | refine g_skip ?_)
    refine openC m xs fun ys hC => ?_
    refine o_load1 (v := .pointer (some ⟨m, 0, none⟩)) rfl rfl ?_
    refine o_assign ?_
    refine g_endt ?_
    repeat (first | refine g_endt ?_ | refine g_end ?_ | refine g_then ?_ | refine g_in_normal ?_ | refine g_then_ret ?_ | refine g_in_ret ?_ | refine g_then_exit ?_ | refine g_in_exit rfl ?_ | refine g_in_exit_ne (by decide) ?_ | refine g_seq ?_ | refine g_region ?_ | refine g_block ?_ | refine g_ret ?_ | refine g_return_n ?_ | refine g_exit ?_ | refine g_skip ?_)
    exact ret1 rfl (resT rfl) ⟨m, ys, rfl, rfl, hC⟩
  · intro D c pre hp
    exact G.pu fun h => h.elim
end Go.Proofs.Ytlognaddmbolgaa
