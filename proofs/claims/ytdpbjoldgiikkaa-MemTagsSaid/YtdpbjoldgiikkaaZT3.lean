/- Parts of a proof, in order. -/
import Derived.Test.YtdpbjoldgiikkaaZT2
import Derived.Laws.Strings

set_option linter.unusedSimpArgs false
set_option linter.unusedVariables false
/- An ordered set's functions, for one type of members: told in order; made; how many; at a place. -/
namespace Go.Proofs.Ytdpbjoldgiikkaa
open Go Go.Sl
attribute [local irreducible] Code.wpIn roundPost bodyPostM runL Ret Meets Begin

theorem fromES_spec (p k : Nat) (ys : List ElemD) (hl : ys.length < 1000000000) (hk : k ≤ ys.length) (l : Nat) (J Jx : List ElemD → List SProp) {M : List SProp} [tk : Take1 (J []) (SetAES p ys) M]
    (hy : ∀ pre x, (pre ++ [x]) <+: ys.drop k → Sl.Yields Try.prog l (ElemD.enc' x) (J pre) (J (pre ++ [x])) (Jx (pre ++ [x]))) :
    Ctr Try.prog 69 [.pointer (some ⟨p, 0, none⟩), .int .i64 (k : Int), .func (.yield l) #[] #[]] (J []) (fun _ L' => L' = J (ys.drop k) ∨ ∃ pre, pre <+: ys.drop k ∧ L' = Jx pre) := by
  refine spec_of Try.func69 rfl Try.ntmps69 rfl fun w0 F => ?_
  repeat (first | refine g_endt ?_ | refine g_end ?_ | refine g_then ?_ | refine g_in_normal ?_ | refine g_then_ret ?_ | refine g_in_ret ?_ | refine g_then_exit ?_ | refine g_in_exit rfl ?_ | refine g_in_exit_ne (by decide) ?_ | refine g_seq ?_ | refine g_region ?_ | refine g_block ?_ | refine g_ret ?_ | refine g_return_n ?_ | refine g_exit ?_ | refine g_skip ?_)
  refine openES p ys fun S c b => ?_
  refine o_move ?_
  refine o_nil rfl ?_
  refine o_field rfl ?_
  refine o_store (v := .bool true) rfl rfl rfl rfl rfl ?_
  refine g_endt ?_
  refine G.norm p #[.slice S ys.length c, .bool true] rfl ?_
  refine G.bring [row 25 ElemD.enc 12 b S c ys] ?_
  refine G.see1 ?_
  repeat (first | refine g_endt ?_ | refine g_end ?_ | refine g_then ?_ | refine g_in_normal ?_ | refine g_then_ret ?_ | refine g_in_ret ?_ | refine g_then_exit ?_ | refine g_in_exit rfl ?_ | refine g_in_exit_ne (by decide) ?_ | refine g_seq ?_ | refine g_region ?_ | refine g_block ?_ | refine g_ret ?_ | refine g_return_n ?_ | refine g_exit ?_ | refine g_skip ?_)
  refine o_move ?_
  refine o_nil rfl ?_
  refine o_field rfl ?_
  refine o_load1 (v := .slice S ys.length c) rfl rfl ?_
  refine o_assign ?_
  refine g_endt ?_
  refine G.dup (psl ElemD.enc 12 S ys) ?_
  refine shutTES p ys S c rfl ?_
  repeat (first | refine g_endt ?_ | refine g_end ?_ | refine g_then ?_ | refine g_in_normal ?_ | refine g_then_ret ?_ | refine g_in_ret ?_ | refine g_then_exit ?_ | refine g_in_exit rfl ?_ | refine g_in_exit_ne (by decide) ?_ | refine g_seq ?_ | refine g_region ?_ | refine g_block ?_ | refine g_ret ?_ | refine g_return_n ?_ | refine g_exit ?_ | refine g_skip ?_)
  refine o_move ?_
  refine o_assign ?_
  first | refine g_endt ?_ | refine g_end ?_
  repeat (first | refine g_endt ?_ | refine g_end ?_ | refine g_then ?_ | refine g_in_normal ?_ | refine g_then_ret ?_ | refine g_in_ret ?_ | refine g_then_exit ?_ | refine g_in_exit rfl ?_ | refine g_in_exit_ne (by decide) ?_ | refine g_seq ?_ | refine g_region ?_ | refine g_block ?_ | refine g_ret ?_ | refine g_return_n ?_ | refine g_exit ?_ | refine g_skip ?_)
  refine g_loop (σ := {i : Nat // k ≤ i ∧ i ≤ ys.length}) (S := fun i => [(2, .func (.yield l) #[] #[]), (6, .slice S ys.length c), (7, .int .i64 (i.1 : Int))])
    (H := fun i => psl ElemD.enc 12 S ys :: J ((ys.drop k).take (i.1 - k))) (μ := fun i => ys.length - i.1) (s0 := ⟨k, Nat.le_refl _, hk⟩) (Sat.mem ⟨rfl, rfl, rfl, trivial⟩)
    (t := by simp only [Nat.sub_self, List.take_zero]; exact Take.setback) ?_
  rintro ⟨i, h1, h2⟩ ρ'
  dsimp only at h1 h2 ⊢
  repeat (first | refine g_endt ?_ | refine g_end ?_ | refine g_then ?_ | refine g_in_normal ?_ | refine g_then_ret ?_ | refine g_in_ret ?_ | refine g_then_exit ?_ | refine g_in_exit rfl ?_ | refine g_in_exit_ne (by decide) ?_ | refine g_seq ?_ | refine g_region ?_ | refine g_block ?_ | refine g_ret ?_ | refine g_return_n ?_ | refine g_exit ?_ | refine g_skip ?_)
  refine o_move ?_
  refine o_move ?_
  refine o_len rfl rfl ?_
  refine o_lss rfl rfl ?_
  first | refine g_endt ?_ | refine g_end ?_
  by_cases h : i < ys.length
  · first | refine g_seq (g_cond_t rfl (by simpa using h) ?_) | refine g_cond_t rfl (by simpa using h) ?_
    repeat (first | refine g_endt ?_ | refine g_end ?_ | refine g_then ?_ | refine g_in_normal ?_ | refine g_then_ret ?_ | refine g_in_ret ?_ | refine g_then_exit ?_ | refine g_in_exit rfl ?_ | refine g_in_exit_ne (by decide) ?_ | refine g_seq ?_ | refine g_region ?_ | refine g_block ?_ | refine g_ret ?_ | refine g_return_n ?_ | refine g_exit ?_ | refine g_skip ?_)
    obtain ⟨y, hz⟩ : ∃ y, ys[i]? = some y := ⟨_, List.getElem?_eq_getElem h⟩
    have ht : (ys.drop k).take (i + 1 - k) = (ys.drop k).take (i - k) ++ [y] := by
      rw [show i + 1 - k = (i - k) + 1 by omega]
      exact take_snocPES _ _ _ (by rw [List.getElem?_drop, show k + (i - k) = i by omega, hz])
    have hp : ((ys.drop k).take (i - k) ++ [y]) <+: ys.drop k := ⟨(ys.drop k).drop (i + 1 - k), by rw [← ht, List.take_append_drop]⟩
    refine o_move ?_
    refine o_move ?_
    refine o_move ?_
    refine o_indexR (i := i) rfl rfl rfl h rfl rfl ?_
    refine o_loadE (enc := ElemD.enc) rfl rfl hz ?_
    refine o_yield (hy _ y hp) rfl rfl ?_ ?_
    · refine o_not rfl ?_
      refine g_endt ?_
      refine g_cond_f rfl rfl ?_
      repeat (first | refine g_endt ?_ | refine g_end ?_ | refine g_then ?_ | refine g_in_normal ?_ | refine g_then_ret ?_ | refine g_in_ret ?_ | refine g_then_exit ?_ | refine g_in_exit rfl ?_ | refine g_in_exit_ne (by decide) ?_ | refine g_seq ?_ | refine g_region ?_ | refine g_block ?_ | refine g_ret ?_ | refine g_return_n ?_ | refine g_exit ?_ | refine g_skip ?_)
      refine o_move ?_
      refine o_add (c := ((i + 1 : Nat) : Int)) rfl rfl (by omega) (by omega) (by omega) ?_
      refine o_assign ?_
      refine g_endt ?_
      repeat (first | refine g_endt ?_ | refine g_end ?_ | refine g_then ?_ | refine g_in_normal ?_ | refine g_then_ret ?_ | refine g_in_ret ?_ | refine g_then_exit ?_ | refine g_in_exit rfl ?_ | refine g_in_exit_ne (by decide) ?_ | refine g_seq ?_ | refine g_region ?_ | refine g_block ?_ | refine g_ret ?_ | refine g_return_n ?_ | refine g_exit ?_ | refine g_skip ?_)
      exact g_meets ⟨i + 1, by omega, h⟩ (by show ys.length - (i + 1) < ys.length - i; omega) (Sat.mem ⟨rfl, rfl, rfl, trivial⟩) (t := by rw [ht]; infer_instance)
    · refine o_not rfl ?_
      refine g_endt ?_
      refine g_cond_t rfl rfl ?_
      repeat (first | refine g_endt ?_ | refine g_end ?_ | refine g_then ?_ | refine g_in_normal ?_ | refine g_then_ret ?_ | refine g_in_ret ?_ | refine g_then_exit ?_ | refine g_in_exit rfl ?_ | refine g_in_exit_ne (by decide) ?_ | refine g_seq ?_ | refine g_region ?_ | refine g_block ?_ | refine g_ret ?_ | refine g_return_n ?_ | refine g_exit ?_ | refine g_skip ?_)
      exact ret0 rfl (.inr ⟨_, hp, rfl⟩)
  · first | refine g_seq (g_cond_f rfl (by simpa using h) ?_) | refine g_cond_f rfl (by simpa using h) ?_
    repeat (first | refine g_endt ?_ | refine g_end ?_ | refine g_then ?_ | refine g_in_normal ?_ | refine g_then_ret ?_ | refine g_in_ret ?_ | refine g_then_exit ?_ | refine g_in_exit rfl ?_ | refine g_in_exit_ne (by decide) ?_ | refine g_seq ?_ | refine g_region ?_ | refine g_block ?_ | refine g_ret ?_ | refine g_return_n ?_ | refine g_exit ?_ | refine g_skip ?_)
    have he : (ys.drop k).take (i - k) = ys.drop k := List.take_of_length_le (by simp; omega)
    exact ret0 (K := J ((ys.drop k).take (i - k))) rfl (.inl (by rw [he]))
theorem All1ES_iter (p b : Nat) (ys : List ElemD) (hl : ys.length < 1000000000) (J0 : List SProp) {M : List SProp} [tk : Take1 J0 (SetAES p ys) M] [HasP J0 (pblk b (.cells #[.pointer (some ⟨p, 0, none⟩)] 68 (0, 0)))] :
    Iter Try.prog 68 [.pointer (some ⟨b, 0, none⟩)] ElemD.enc' ys J0 := by
  intro l J Jx hJ hy
  subst hJ
  refine spec_of Try.func68 rfl Try.ntmps68 rfl fun w0 F => ?_
  refine G.dup (pblk b (.cells #[.pointer (some ⟨p, 0, none⟩)] 68 (0, 0))) ?_
  repeat (first | refine g_endt ?_ | refine g_end ?_ | refine g_then ?_ | refine g_in_normal ?_ | refine g_then_ret ?_ | refine g_in_ret ?_ | refine g_then_exit ?_ | refine g_in_exit rfl ?_ | refine g_in_exit_ne (by decide) ?_ | refine g_seq ?_ | refine g_region ?_ | refine g_block ?_ | refine g_ret ?_ | refine g_return_n ?_ | refine g_exit ?_ | refine g_skip ?_)
  refine o_load1 (v := .pointer (some ⟨p, 0, none⟩)) rfl rfl ?_
  refine o_pneq rfl ?_
  refine g_endt ?_
  first | refine g_seq (g_cond_t rfl (rfl) ?_) | refine g_cond_t rfl (rfl) ?_
  repeat (first | refine g_endt ?_ | refine g_end ?_ | refine g_then ?_ | refine g_in_normal ?_ | refine g_then_ret ?_ | refine g_in_ret ?_ | refine g_then_exit ?_ | refine g_in_exit rfl ?_ | refine g_in_exit_ne (by decide) ?_ | refine g_seq ?_ | refine g_region ?_ | refine g_block ?_ | refine g_ret ?_ | refine g_return_n ?_ | refine g_exit ?_ | refine g_skip ?_)
  refine o_load1 (v := .pointer (some ⟨p, 0, none⟩)) rfl rfl ?_
  refine o_move ?_
  refine o_call (fromES_spec p 0 ys hl (Nat.zero_le _) l J Jx (by simpa using hy)) rfl rfl ?_
  intro v L' hR
  repeat (first | refine g_endt ?_ | refine g_end ?_ | refine g_then ?_ | refine g_in_normal ?_ | refine g_then_ret ?_ | refine g_in_ret ?_ | refine g_then_exit ?_ | refine g_in_exit rfl ?_ | refine g_in_exit_ne (by decide) ?_ | refine g_seq ?_ | refine g_region ?_ | refine g_block ?_ | refine g_ret ?_ | refine g_return_n ?_ | refine g_exit ?_ | refine g_skip ?_)
  exact ret0 (K := L') rfl (by simpa using hR)
theorem AllES_spec (p : Nat) : Ctr Try.prog 44 [.pointer (some ⟨p, 0, none⟩)] []
    (fun v M => ∃ b, v = .func (.func 68) #[] #[.pointer (some ⟨b, 0, none⟩)] ∧ M = [pblk b (.cells #[.pointer (some ⟨p, 0, none⟩)] 68 (0, 0))]) := by
  refine spec_of Try.func44 rfl Try.ntmps44 rfl fun w0 F => ?_
  repeat (first | refine g_endt ?_ | refine g_end ?_ | refine g_then ?_ | refine g_in_normal ?_ | refine g_then_ret ?_ | refine g_in_ret ?_ | refine g_then_exit ?_ | refine g_in_exit rfl ?_ | refine g_in_exit_ne (by decide) ?_ | refine g_seq ?_ | refine g_region ?_ | refine g_block ?_ | refine g_ret ?_ | refine g_return_n ?_ | refine g_exit ?_ | refine g_skip ?_)
  refine o_boxc #[.pointer (some ⟨p, 0, none⟩)] rfl rfl fun b => ?_
  refine G.freeze ?_
  refine o_assign ?_
  first | refine g_endt ?_ | refine g_end ?_
  repeat (first | refine g_endt ?_ | refine g_end ?_ | refine g_then ?_ | refine g_in_normal ?_ | refine g_then_ret ?_ | refine g_in_ret ?_ | refine g_then_exit ?_ | refine g_in_exit rfl ?_ | refine g_in_exit_ne (by decide) ?_ | refine g_seq ?_ | refine g_region ?_ | refine g_block ?_ | refine g_ret ?_ | refine g_return_n ?_ | refine g_exit ?_ | refine g_skip ?_)
  refine o_func ?_
  refine o_assign ?_
  first | refine g_endt ?_ | refine g_end ?_
  repeat (first | refine g_endt ?_ | refine g_end ?_ | refine g_then ?_ | refine g_in_normal ?_ | refine g_then_ret ?_ | refine g_in_ret ?_ | refine g_then_exit ?_ | refine g_in_exit rfl ?_ | refine g_in_exit_ne (by decide) ?_ | refine g_seq ?_ | refine g_region ?_ | refine g_block ?_ | refine g_ret ?_ | refine g_return_n ?_ | refine g_exit ?_ | refine g_skip ?_)
  exact ret1 rfl (resT rfl) ⟨b, rfl, rfl⟩
end Go.Proofs.Ytdpbjoldgiikkaa
/- An ordered set's functions, for one type of members: at a place, how many. -/
namespace Go.Proofs.Ytdpbjoldgiikkaa
open Go Go.Sl
attribute [local irreducible] Code.wpIn roundPost bodyPostM runL Ret Meets Begin

theorem LenES_spec (p : Nat) (ys : List ElemD) : Ctr Try.prog 40 [.pointer (some ⟨p, 0, none⟩)] [SetAES p ys] (fun v M => v = .int .i64 (ys.length : Int) ∧ M = [SetAES p ys]) := by
  refine spec_of Try.func40 rfl Try.ntmps40 rfl fun w0 F => ?_
  repeat (first | refine g_endt ?_ | refine g_end ?_ | refine g_then ?_ | refine g_in_normal ?_ | refine g_then_ret ?_ | refine g_in_ret ?_ | refine g_then_exit ?_ | refine g_in_exit rfl ?_ | refine g_in_exit_ne (by decide) ?_ | refine g_seq ?_ | refine g_region ?_ | refine g_block ?_ | refine g_ret ?_ | refine g_return_n ?_ | refine g_exit ?_ | refine g_skip ?_)
  refine o_assign ?_
  first | refine g_endt ?_ | refine g_end ?_
  repeat (first | refine g_endt ?_ | refine g_end ?_ | refine g_then ?_ | refine g_in_normal ?_ | refine g_then_ret ?_ | refine g_in_ret ?_ | refine g_then_exit ?_ | refine g_in_exit rfl ?_ | refine g_in_exit_ne (by decide) ?_ | refine g_seq ?_ | refine g_region ?_ | refine g_block ?_ | refine g_ret ?_ | refine g_return_n ?_ | refine g_exit ?_ | refine g_skip ?_)
  refine o_move ?_
  refine o_peql rfl ?_
  first | refine g_endt ?_ | refine g_end ?_
  first | refine g_seq (g_cond_f rfl (rfl) ?_) | refine g_cond_f rfl (rfl) ?_
  repeat (first | refine g_endt ?_ | refine g_end ?_ | refine g_then ?_ | refine g_in_normal ?_ | refine g_then_ret ?_ | refine g_in_ret ?_ | refine g_then_exit ?_ | refine g_in_exit rfl ?_ | refine g_in_exit_ne (by decide) ?_ | refine g_seq ?_ | refine g_region ?_ | refine g_block ?_ | refine g_ret ?_ | refine g_return_n ?_ | refine g_exit ?_ | refine g_skip ?_)
  refine openES p ys fun S c b => ?_
  refine o_move ?_
  refine o_nil rfl ?_
  refine o_field rfl ?_
  refine o_load1 (v := .slice S ys.length c) rfl rfl ?_
  refine o_len rfl rfl ?_
  refine o_assign ?_
  refine g_endt ?_
  refine shutES p ys S c b rfl ?_
  repeat (first | refine g_endt ?_ | refine g_end ?_ | refine g_then ?_ | refine g_in_normal ?_ | refine g_then_ret ?_ | refine g_in_ret ?_ | refine g_then_exit ?_ | refine g_in_exit rfl ?_ | refine g_in_exit_ne (by decide) ?_ | refine g_seq ?_ | refine g_region ?_ | refine g_block ?_ | refine g_ret ?_ | refine g_return_n ?_ | refine g_exit ?_ | refine g_skip ?_)
  exact ret1 rfl (resT rfl) ⟨rfl, rfl⟩
end Go.Proofs.Ytdpbjoldgiikkaa
/- Parts of slices that stay. Plain library, no program in sight. -/
namespace Go.Sl
open Go Go.Proofs Go.RowKit

section
variable {w0 : World} {A : SProp} {L : List SProp} {ro : Option Nat} {P : Program} {Q : Exit → Act → World → Prop} {all : Array Oper} {os : List Oper} {n : Nat} {ρ : Nat → Value} {ds : List Nat}
variable {d : Option Tmp} {ty : TypeId} {pos : String} {af : Array Edge} {x y : Operand}
variable {α : Type} {enc : α → List Value} {sz : Nat} {xs : List α} {S : Option Addr}
theorem rdE.take {h : Hp} (r : rdE S enc sz xs h) (k : Nat) : rdE S enc sz (xs.take k) h := fun i y hy => r i y (by
  rw [List.getElem?_take] at hy
  split at hy
  · exact hy
  · cases hy)
/-- Where 's[k:]' begins. -/
def offA (S : Option Addr) (c k sz : Nat) : Option Addr := if c = k then S else S.map (·.add (k * sz))
theorem rdE.drop {h : Hp} (r : rdE S enc sz xs h) (c k : Nat) (hc : xs.length ≤ c) : rdE (offA S c k sz) enc sz (xs.drop k) h := fun i y hy => by
  rw [List.getElem?_drop] at hy
  have hlt : k + i < xs.length := (List.getElem?_eq_some_iff.1 hy).1
  obtain ⟨b, o, rfl, hu⟩ := r (k + i) y hy
  refine ⟨b, o + k * sz, ?_, fun j u hj => ?_⟩
  · unfold offA
    rw [if_neg (by omega)]
    simp [add_off]
  · have := hu j u hj
    rwa [show o + ((k + i) * sz + j) = o + k * sz + (i * sz + j) by rw [Nat.add_mul]; omega] at this
theorem psl_take_ent (k : Nat) {M : List SProp} [tk : Take1 L (psl enc sz S xs) M] : Ent (sl L) (star (psl enc sz S (xs.take k)) (sl L)) := by
  refine (sl_perm tk.perm).trans (Ent.trans ?_ ((Ent.refl _).star (sl_perm tk.perm.symm)))
  exact fun B h ⟨k1, k2, d, l1, l2, x, y⟩ => ⟨hnil, h, (Dj.nil _).symm, .nil _, .refl _, rdE.take x k, k1, k2, d, l1, l2, x, y⟩
theorem psl_drop_ent (c k : Nat) (hc : xs.length ≤ c) {M : List SProp} [tk : Take1 L (psl enc sz S xs) M] : Ent (sl L) (star (psl enc sz (offA S c k sz) (xs.drop k)) (sl L)) := by
  refine (sl_perm tk.perm).trans (Ent.trans ?_ ((Ent.refl _).star (sl_perm tk.perm.symm)))
  exact fun B h ⟨k1, k2, d, l1, l2, x, y⟩ => ⟨hnil, h, (Dj.nil _).symm, .nil _, .refl _, rdE.drop x c k hc, k1, k2, d, l1, l2, x, y⟩
/-- 's[:k]'. -/
theorem o_uptoP {t e : TypeId} {sz' c len k : Nat} {kd : IntKind} {m : Int} (hx : ev n ρ x = .slice S len c) (hy : ev n ρ y = .int kd m) (hm : m = (k : Int)) [st : SlTy P t e sz'] (hc : k ≤ c)
    (h : G w0 A L (fun w => runL ro P all Q os (act n (updo ρ d (.slice S k c)) ds) w)) :
    G w0 A L (fun w => runL ro P all Q ({ dst := d, op := .slice t x none (some y) none, type := ty, pos := pos, after := af, guard := none } :: os) (act n ρ ds) w) := by
  subst hm
  refine o_val (v := .slice S k c) rfl (by intro c e; cases e) (fun w hw hh => ?_) h
  simp only [execOp]
  refine run_v ?_
  have hkc : (k : Int) ≤ (c : Int) := by omega
  simp only [Option.map_none, Option.map_some, hx, hy]
  simp [Instr.sliceAt, Instr.slice, run_underlying st.ty, Instr.sliceBounds, Instr.sliceBound, asIntOf, st.size]
  rw [if_pos hc]
  cases S <;> simp [Addr.add]
/-- 's[k:]'. -/
theorem o_fromP {t e : TypeId} {sz' c len k : Nat} {kd : IntKind} {m : Int} (hx : ev n ρ x = .slice S len c) (hy : ev n ρ y = .int kd m) (hm : m = (k : Int)) [st : SlTy P t e sz'] (hk : k ≤ len)
    (h : G w0 A L (fun w => runL ro P all Q os (act n (updo ρ d (.slice (offA S c k sz') (len - k) (c - k))) ds) w)) :
    G w0 A L (fun w => runL ro P all Q ({ dst := d, op := .slice t x (some y) none none, type := ty, pos := pos, after := af, guard := none } :: os) (act n ρ ds) w) := by
  subst hm
  refine o_val (v := .slice (offA S c k sz') (len - k) (c - k)) rfl (by intro c e; cases e) (fun w hw hh => ?_) h
  simp only [execOp]
  refine run_v ?_
  simp only [Option.map_none, Option.map_some, hx, hy]
  simp [Instr.sliceAt, Instr.slice, run_underlying st.ty, Instr.sliceBounds, Instr.sliceBound, asIntOf, st.size, offA]
  exact fun hlt => absurd hlt (by omega)
theorem G.taken (k : Nat) {M : List SProp} {Φ : World → Prop} [tk : Take1 L (psl enc sz S xs) M] (h : G w0 A (psl enc sz S (xs.take k) :: L) Φ) : G w0 A L Φ := G.ent (L := L) (L' := psl enc sz S (xs.take k) :: L) (psl_take_ent k) h
theorem G.dropped (c k : Nat) (hc : xs.length ≤ c) {M : List SProp} {Φ : World → Prop} [tk : Take1 L (psl enc sz S xs) M] (h : G w0 A (psl enc sz (offA S c k sz) (xs.drop k) :: L) Φ) : G w0 A L Φ :=
  G.ent (L := L) (L' := psl enc sz (offA S c k sz) (xs.drop k) :: L) (psl_drop_ent c k hc) h
/-- A cut behind a block (a loop, say), where what follows stands in the exit already. -/
theorem g_cutb {F : Fence} {m : Nat} {σ : Type} {n : Nat} {ρ : Nat → Value} {ds ds' : List Nat} {x : Code} {id : Nat} {K : Act → World → Prop} (T : σ → List (Nat × Value)) (H : σ → List SProp) (ok : σ → Prop)
    (h : G w0 A L (fun w => x.wpIn F m P (Exit.inBlock id (Exit.then (Meets w0 A n ds' T H ok) Q)) (act n ρ ds) w))
    (k : ∀ s ρ', ok s → G w0 A (H s) (fun w => K (act n (updl ρ' (T s)) ds') w)) : G w0 A L (fun w => x.wpIn F m P (Exit.inBlock id (Exit.then K Q)) (act n ρ ds) w) := by
  refine h.mono fun _ hw => wpIn_mono hw ?_
  intro e a w' hq
  cases e with
  | normal => exact Meets.elim (Φ := K) hq k
  | exit j =>
    simp only [Exit.inBlock] at hq ⊢
    split at hq
    · rename_i hj; rw [if_pos hj]; exact Meets.elim (Φ := K) hq k
    · rename_i hj; rw [if_neg hj]; exact hq
  | _ => exact hq
end
end Go.Sl
/- A region that draws its order, with operations that float: they take nothing but what is read, and what they make is had later. Plain library, no program in sight. -/
namespace Go.Sl
open Go Go.Proofs

/-- What the walk does: an operation; a floating one told; what it made, had. -/
inductive It where
  | op (i : Nat)
  | dec (i : Nat)
  | join (i : Nat)
def It.ix : It → Nat
  | .op i => i
  | .dec i => i
  | .join i => i
def It.isJ : It → Bool
  | .join _ => true
  | _ => false
abbrev Kd := Value → List SProp → Prop
/-- The order in which the walk takes the operations. -/
def okOrderF (lou : List Nat) (b : List Nat) : List It → Bool
  | [] => true
  | .op i :: π => (!lou.contains i || π.all fun y => y.isJ || isAnc b y.ix i) && (π.all fun y => !isAnc b i y.ix) && (π.all fun y => y.ix != i) && okOrderF lou b π
  | .dec i :: π => (π.any fun y => y.isJ && y.ix == i) && (π.all fun y => !isAnc b i y.ix) && (π.all fun y => y.isJ || y.ix != i) && okOrderF lou b π
  | .join i :: π => (π.all fun y => y.isJ || isAnc b y.ix i) && (π.all fun y => !y.isJ || y.ix != i) && okOrderF lou b π
def okPermF (m : Nat) (π : List It) : Bool := ((π.filter fun y => !y.isJ).length == m) && ((List.range m).all fun i => π.any fun y => !y.isJ && y.ix == i) && (π.all fun y => Nat.blt y.ix m)
def okSyncF (b : List Nat) (m i : Nat) (π : List It) : Bool := (List.range m).all fun j => (π.any fun y => !y.isJ && y.ix == j) || (j == i || isAnc b i j)

def ObF (w0 : World) (A : SProp) (ro : Option Nat) (P : Program) (l : List Oper) (n : Nat) (ds : List Nat) (lou : List Nat) (K : (Nat → Value) → List SProp → Prop) : List It → List (Nat × Kd) → List SProp → (Nat → Value) → List SProp → Prop
  | [], _, Lq, ρ, Lp => K ρ (Lq ++ Lp)
  | .op i :: π, D, Lq, ρ, Lp => match l[i]? with
    | none => False
    | some o => if lou.contains i then
        ∀ X, OStep w0 (star A X) ro P l.toArray n ds ρ (Lq ++ Lp) o (fun v M => ∃ Lq' Lp', Ent (sl M) (sl (Lq' ++ Lp')) ∧ (Lq' = Lq ∨ okSyncF (masks l []) l.length i π = true) ∧ ObF w0 A ro P l n ds lou K π D Lq' (updo ρ o.dst v) Lp')
      else ∃ v, (∀ X, OStep w0 A ro P l.toArray n ds ρ (Lq ++ X) o (fun u M => u = v ∧ M = Lq ++ X)) ∧ ObF w0 A ro P l n ds lou K π D Lq (updo ρ o.dst v) Lp
  | .dec i :: π, D, Lq, ρ, Lp => match l[i]? with
    | none => False
    | some o => ∃ R : Kd, (∀ X, OStep w0 A ro P l.toArray n ds ρ (Lq ++ X) o (fun v M => ∃ M', Ent (sl M) (sl (Lq ++ (X ++ M'))) ∧ R v M')) ∧ ObF w0 A ro P l n ds lou K π ((i, R) :: D) Lq ρ Lp
  | .join i :: π, D, Lq, ρ, Lp => match l[i]? with
    | none => False
    | some o => ∃ R : Kd, (i, R) ∈ D ∧ ∀ v M, R v M → ObF w0 A ro P l n ds lou K π D Lq (updo ρ o.dst v) (M ++ Lp)

/-- Walked and not run: with the value it will have, or with what will be said of what it makes. -/
abbrev Pe := Nat × (Nat → Value) × (Value ⊕ Kd)
/-- Run, and not had yet. -/
abbrev Ee := Nat × Value × List SProp × Kd
def earV (l : List Oper) (ear : List Ee) (t : Nat) : Option Value := (ear.find? (fun e => dstAt l e.1 == some t)).map (·.2.1)
def EL (ear : List Ee) : List SProp := ear.flatMap (·.2.2.1)
def curF (l : List Oper) (ρ0 : Nat → Value) (pend : List Pe) (ear : List Ee) (ρf : Nat → Value) : Nat → Value := fun t => match earV l ear t with
  | some v => v
  | none => cond (pend.any (fun p => dstAt l p.1 == some t)) (ρ0 t) (ρf t)
theorem earV_some {l : List Oper} {ear : List Ee} {t : Nat} {v : Value} (h : earV l ear t = some v) : ∃ e ∈ ear, dstAt l e.1 = some t ∧ e.2.1 = v := by
  unfold earV at h
  rw [Option.map_eq_some_iff] at h
  obtain ⟨e, he, hv⟩ := h
  exact ⟨e, List.mem_of_find?_eq_some he, by simpa using List.find?_some he, hv⟩
theorem earV_none {l : List Oper} {ear : List Ee} {t : Nat} (h : ∀ e ∈ ear, dstAt l e.1 ≠ some t) : earV l ear t = none := by
  unfold earV
  rw [Option.map_eq_none_iff, List.find?_eq_none]
  intro e he
  simpa using h e he
theorem earV_drop {l : List Oper} {ea eb : List Ee} {e : Ee} {t : Nat} (h : dstAt l e.1 ≠ some t) : earV l (ea ++ e :: eb) t = earV l (ea ++ eb) t := by
  unfold earV
  congr 1
  rw [List.find?_append, List.find?_append, List.find?_cons]
  have : (dstAt l e.1 == some t) = false := by simpa using h
  rw [this]
theorem earV_cons {l : List Oper} {ear : List Ee} {e : Ee} {t : Nat} (h : dstAt l e.1 ≠ some t) : earV l (e :: ear) t = earV l ear t := earV_drop (ea := []) h
theorem earV_head {l : List Oper} {ear : List Ee} {e : Ee} {t : Nat} (h : dstAt l e.1 = some t) : earV l (e :: ear) t = some e.2.1 := by
  unfold earV
  rw [List.find?_cons]
  simp [h]

section
variable {w0 : World} {A : SProp} {ro : Option Nat} {P : Program} {n : Nat} {ds : List Nat}
structure InvF (w0 : World) (A : SProp) (ro : Option Nat) (P : Program) (l : List Oper) (n : Nat) (ds : List Nat) (b : List Nat) (Lq : List SProp) (ρ0 : Nat → Value) (listed : Array Bool) (π : List It) (D : List (Nat × Kd)) (pend : List Pe) (ear : List Ee) (ρf : Nat → Value) : Prop where
  sz : listed.size = l.length
  inπ : ∀ x ∈ π, x.isJ = false → x.ix < l.length ∧ listed.getD x.ix false = false ∧ ∀ p ∈ pend, p.1 ≠ x.ix
  inP : ∀ p ∈ pend, p.1 < l.length ∧ listed.getD p.1 false = false
  inE : ∀ e ∈ ear, e.1 < l.length ∧ listed.getD e.1 false = true ∧ It.join e.1 ∈ π ∧ e.2.2.2 e.2.1 e.2.2.1
  all : ∀ j, j < l.length → listed.getD j false = true ∨ (∃ p ∈ pend, p.1 = j) ∨ ∃ x ∈ π, x.isJ = false ∧ x.ix = j
  nP : (pend.map (·.1)).Nodup
  nE : (ear.map (·.1)).Nodup
  closed : ∀ i j, listed.getD i false = true → isAnc b i j = true → j < l.length → listed.getD j false = true
  base : ∀ t, (∀ j, j < l.length → (∀ x ∈ π, x.ix ≠ j) → dstAt l j ≠ some t) → ρf t = ρ0 t
  pa : ∀ p ∈ pend, ∀ x ∈ π, isAnc b p.1 x.ix = false
  pq : ∀ p ∈ pend, ∀ o, l[p.1]? = some o → (match p.2.2 with
      | .inl v => (∀ X, OStep w0 A ro P l.toArray n ds p.2.1 (Lq ++ X) o (fun u M => u = v ∧ M = Lq ++ X)) ∧ (∀ d, o.dst = some d → ρf d = v)
      | .inr R => (∀ X, OStep w0 A ro P l.toArray n ds p.2.1 (Lq ++ X) o (fun v M => ∃ M', Ent (sl M) (sl (Lq ++ (X ++ M'))) ∧ R v M')) ∧ It.join p.1 ∈ π) ∧
    ∀ t ∈ o.looksAt l.toArray, ((∃ j, j < l.length ∧ isAnc b p.1 j = true ∧ dstAt l j = some t) → p.2.1 t = ρf t) ∧ ((∀ j, j < l.length → isAnc b p.1 j = true → dstAt l j ≠ some t) → p.2.1 t = ρ0 t)
  dl : ∀ q ∈ D, (∃ p ∈ pend, p.1 = q.1 ∧ p.2.2 = .inr q.2) ∨ (∃ e ∈ ear, e.1 = q.1 ∧ e.2.2.2 = q.2) ∨ (∀ x ∈ π, x.ix ≠ q.1)

variable {l : List Oper} {b lou : List Nat} {Lq : List SProp} {ρ0 : Nat → Value} {K : (Nat → Value) → List SProp → Prop}

theorem okF_tail {x : It} {π : List It} (h : okOrderF lou b (x :: π) = true) : okOrderF lou b π = true := by
  cases x <;> simp only [okOrderF, Bool.and_eq_true] at h <;> exact h.2
theorem okF_anc {x : It} {π : List It} (h : okOrderF lou b (x :: π) = true) (hx : x.isJ = false) : ∀ y ∈ π, isAnc b x.ix y.ix = false := by
  cases x with
  | join i => cases hx
  | op i =>
    simp only [okOrderF, Bool.and_eq_true, List.all_eq_true] at h
    intro y hy; simpa [It.ix] using h.1.1.2 y hy
  | dec i =>
    simp only [okOrderF, Bool.and_eq_true, List.all_eq_true] at h
    intro y hy; simpa [It.ix] using h.1.1.2 y hy
theorem okF_ne {x : It} {π : List It} (h : okOrderF lou b (x :: π) = true) (hx : x.isJ = false) : ∀ y ∈ π, y.isJ = false → y.ix ≠ x.ix := by
  cases x with
  | join i => cases hx
  | op i =>
    simp only [okOrderF, Bool.and_eq_true, List.all_eq_true] at h
    intro y hy hj; simpa [It.ix] using h.1.2 y hy
  | dec i =>
    simp only [okOrderF, Bool.and_eq_true, List.all_eq_true] at h
    intro y hy hj; simpa [hj, It.ix] using h.1.2 y hy

/-- A quiet operation, or a floating one, is walked. -/
theorem InvF.push (rf : RegFacts l n b) {listed : Array Bool} {x : It} {π : List It} {D D' : List (Nat × Kd)} {pend : List Pe} {ear : List Ee} {ρf ρf' : Nat → Value} {o : Oper} {kd : Value ⊕ Kd} (h : InvF w0 A ro P l n ds b Lq ρ0 listed (x :: π) D pend ear ρf)
    (ho : okOrderF lou b (x :: π) = true) (hx : x.isJ = false) (hk : l[x.ix]? = some o) (hρ : ∀ t, dstAt l x.ix ≠ some t → ρf' t = ρf t)
    (hkd : match kd with
      | .inl v => (∀ X, OStep w0 A ro P l.toArray n ds ρf (Lq ++ X) o (fun u M => u = v ∧ M = Lq ++ X)) ∧ (∀ d, o.dst = some d → ρf' d = v) ∧ (∀ y ∈ π, y.ix ≠ x.ix)
      | .inr R => (∀ X, OStep w0 A ro P l.toArray n ds ρf (Lq ++ X) o (fun v M => ∃ M', Ent (sl M) (sl (Lq ++ (X ++ M'))) ∧ R v M')) ∧ It.join x.ix ∈ π ∧ ρf' = ρf)
    (hD : match kd with
      | .inl _ => D' = D
      | .inr R => D' = (x.ix, R) :: D) :
    InvF w0 A ro P l n ds b Lq ρ0 listed π D' ((x.ix, ρf, kd) :: pend) ear ρf' ∧ curF l ρ0 ((x.ix, ρf, kd) :: pend) ear ρf' = curF l ρ0 pend ear ρf := by
  have hkl : x.ix < l.length := (List.getElem?_eq_some_iff.1 hk).1
  have hkd' := dstAt_of hk
  obtain ⟨_, hkn, hkp⟩ := h.inπ x List.mem_cons_self hx
  have hbase : ∀ t, dstAt l x.ix = some t → ρf t = ρ0 t := fun t ht => h.base t fun j hj hjn e => hjn x List.mem_cons_self (rf.dne j x.ix t hj hkl e ht).symm
  refine ⟨⟨h.sz, ?_, ?_, ?_, ?_, ?_, h.nE, h.closed, ?_, ?_, ?_, ?_⟩, ?_⟩
  · intro y hy hj
    obtain ⟨h1, h2, h3⟩ := h.inπ y (List.mem_cons_of_mem _ hy) hj
    refine ⟨h1, h2, fun p hp => ?_⟩
    rcases List.mem_cons.1 hp with rfl | hp
    · exact (okF_ne ho hx y hy hj).symm
    · exact h3 p hp
  · intro p hp
    rcases List.mem_cons.1 hp with rfl | hp
    · exact ⟨hkl, hkn⟩
    · exact h.inP p hp
  · intro e he
    obtain ⟨h1, h2, h3, h4⟩ := h.inE e he
    refine ⟨h1, h2, ?_, h4⟩
    rcases List.mem_cons.1 h3 with h3 | h3
    · rw [← h3] at hx; cases hx
    · exact h3
  · intro j hj
    rcases h.all j hj with h1 | ⟨p, hp, rfl⟩ | ⟨y, hy, h1, h2⟩
    · exact .inl h1
    · exact .inr (.inl ⟨p, List.mem_cons_of_mem _ hp, rfl⟩)
    · rcases List.mem_cons.1 hy with rfl | hy
      · exact .inr (.inl ⟨_, List.mem_cons_self, h2⟩)
      · exact .inr (.inr ⟨y, hy, h1, h2⟩)
  · rw [List.map_cons, List.nodup_cons]
    refine ⟨fun hm => ?_, h.nP⟩
    obtain ⟨p, hp, e⟩ := List.mem_map.1 hm
    exact hkp p hp e
  · intro t ht
    have hs : ∀ (_ : dstAt l x.ix ≠ some t), ρf' t = ρ0 t := fun hne => by
      rw [hρ t hne]
      refine h.base t fun j hj hjn => ht j hj fun y hy => hjn y (List.mem_cons_of_mem _ hy)
    cases kd with
    | inl v =>
      exact hs (ht x.ix hkl hkd.2.2)
    | inr R =>
      by_cases e : dstAt l x.ix = some t
      · rw [hkd.2.2]; exact hbase t e
      · exact hs e
  · intro p hp y hy
    rcases List.mem_cons.1 hp with rfl | hp
    · exact okF_anc ho hx y hy
    · exact h.pa p hp y (List.mem_cons_of_mem _ hy)
  · intro p hp o' ho'
    rcases List.mem_cons.1 hp with rfl | hp
    · rw [hk] at ho'
      obtain rfl := Option.some.inj ho'
      refine ⟨?_, fun t ht => ⟨?_, ?_⟩⟩
      · cases kd with
        | inl v => exact ⟨hkd.1, hkd.2.1⟩
        | inr R => exact ⟨hkd.1, hkd.2.1⟩
      · rintro ⟨j, hj, ha, hd⟩
        refine (hρ t fun e => ?_).symm
        have : j = x.ix := rf.dne j x.ix t hj hkl hd e
        subst this
        rw [rf.irr _ hj] at ha; cases ha
      · intro hno
        refine h.base t fun j hj hjn e => ?_
        rcases rf.look x.ix o hk t ht j hj e with h1 | h1 | h1
        · exact hno j hj h1 e
        · exact hjn x List.mem_cons_self h1
        · rcases h.all j hj with h2 | ⟨p, hp, rfl⟩ | ⟨y, hy, _, h2⟩
          · have := h.closed j x.ix h2 h1 hkl
            rw [hkn] at this; cases this
          · rw [h.pa p hp x List.mem_cons_self] at h1; cases h1
          · exact hjn y hy h2
    · obtain ⟨h1, h3⟩ := h.pq p hp o' ho'
      have hne : p.1 ≠ x.ix := hkp p hp
      have hpl := (h.inP p hp).1
      have hpak := h.pa p hp x List.mem_cons_self
      refine ⟨?_, fun t ht => ⟨?_, (h3 t ht).2⟩⟩
      · cases hq : p.2.2 with
        | inl v =>
          rw [hq] at h1
          refine ⟨h1.1, fun d hd => ?_⟩
          rw [hρ d]
          · exact h1.2 d hd
          · intro e
            exact hne (rf.dne p.1 x.ix d hpl hkl (by rw [dstAt_of ho']; exact hd) e)
        | inr R =>
          rw [hq] at h1
          refine ⟨h1.1, ?_⟩
          rcases List.mem_cons.1 h1.2 with h4 | h4
          · rw [← h4] at hx; cases hx
          · exact h4
      · rintro ⟨j, hj, ha, hd⟩
        rw [(h3 t ht).1 ⟨j, hj, ha, hd⟩]
        refine (hρ t fun e => ?_).symm
        have : j = x.ix := rf.dne j x.ix t hj hkl hd e
        subst this
        rw [hpak] at ha; cases ha
  · have hold : ∀ q ∈ D, (∃ p ∈ ((x.ix, ρf, kd) :: pend : List Pe), p.1 = q.1 ∧ p.2.2 = .inr q.2) ∨ (∃ e ∈ ear, e.1 = q.1 ∧ e.2.2.2 = q.2) ∨ (∀ y ∈ π, y.ix ≠ q.1) := by
      intro q hq
      rcases h.dl q hq with ⟨p, hp, h1⟩ | h1 | h1
      · exact .inl ⟨p, List.mem_cons_of_mem _ hp, h1⟩
      · exact .inr (.inl h1)
      · exact .inr (.inr fun y hy => h1 y (List.mem_cons_of_mem _ hy))
    cases kd with
    | inl v => rw [hD]; exact hold
    | inr R =>
      rw [hD]
      intro q hq
      rcases List.mem_cons.1 hq with rfl | hq
      · exact .inl ⟨_, List.mem_cons_self, rfl, rfl⟩
      · exact hold q hq
  · funext t
    unfold curF
    cases earV l ear t with
    | some v => rfl
    | none =>
      simp only [List.any_cons]
      by_cases e : dstAt l x.ix = some t
      · have hno : pend.any (fun p => dstAt l p.1 == some t) = false := by
          rw [List.any_eq_false]
          intro p hp
          simp only [beq_iff_eq]
          intro e2
          exact hkp p hp (rf.dne p.1 x.ix t (h.inP p hp).1 hkl e2 e)
        simp [e, hno, hbase t e]
      · have e1 : (dstAt l x.ix == some t) = false := by simpa using e
        rw [e1, Bool.false_or, hρ t e]

/-- What was made ahead of its time is had. -/
theorem InvF.absorb (rf : RegFacts l n b) {listed : Array Bool} {f : Nat} {π : List It} {D : List (Nat × Kd)} {pend : List Pe} {ear : List Ee} {ρf : Nat → Value} {Lp : List SProp} (h : InvF w0 A ro P l n ds b Lq ρ0 listed (.join f :: π) D pend ear ρf)
    (ho : okOrderF lou b (.join f :: π) = true) (hf : listed.getD f false = true) (hob : ObF w0 A ro P l n ds lou K (.join f :: π) D Lq ρf Lp) :
    ∃ ear' ρf' Lp', InvF w0 A ro P l n ds b Lq ρ0 listed π D pend ear' ρf' ∧ ObF w0 A ro P l n ds lou K π D Lq ρf' Lp' ∧ curF l ρ0 pend ear' ρf' = curF l ρ0 pend ear ρf ∧ (Lp ++ EL ear).Perm (Lp' ++ EL ear') := by
  simp only [ObF] at hob
  cases hk : l[f]? with
  | none => rw [hk] at hob; exact hob.elim
  | some o =>
    rw [hk] at hob
    obtain ⟨R, hR, hnext⟩ := hob
    have hfl : f < l.length := (List.getElem?_eq_some_iff.1 hk).1
    have hdf := dstAt_of hk
    simp only [okOrderF, Bool.and_eq_true, List.all_eq_true] at ho
    have hnj : ∀ y ∈ π, y.ix ≠ f := fun y hy e => by
      have h1 := ho.1.1 y hy
      have h2 := ho.1.2 y hy
      cases hj : y.isJ with
      | true => rw [hj] at h2; simp [e] at h2
      | false =>
        rw [hj] at h1
        simp only [Bool.false_or] at h1
        rw [e, rf.irr f hfl] at h1; cases h1
    have hpf : ∀ p ∈ pend, p.1 ≠ f := fun p hp e => by
      have := (h.inP p hp).2
      rw [e, hf] at this; cases this
    rcases h.dl (f, R) hR with ⟨p, hp, h1, _⟩ | ⟨e, he, h1, h2⟩ | h1
    · exact absurd h1 (hpf p hp)
    · obtain ⟨ea, eb, hee⟩ := List.append_of_mem he
      have h1 : e.1 = f := h1
      have h2 : e.2.2.2 = R := h2
      have hRv : R e.2.1 e.2.2.1 := h2 ▸ (h.inE e he).2.2.2
      have hnE := h.nE
      rw [hee, List.map_append, List.map_cons] at hnE
      have hsplit := List.nodup_append.1 hnE
      have hne : ∀ q ∈ ea ++ eb, q.1 ≠ f := by
        intro q hq e2
        rcases List.mem_append.1 hq with hq | hq
        · exact hsplit.2.2 q.1 (List.mem_map.2 ⟨q, hq, rfl⟩) e.1 List.mem_cons_self (by rw [e2, h1])
        · exact (List.nodup_cons.1 hsplit.2.1).1 (by rw [h1, ← e2]; exact List.mem_map.2 ⟨q, hq, rfl⟩)
      have hmem : ∀ q, q ∈ ea ++ eb → q ∈ ear := fun q hq => by
        rw [hee]
        rcases List.mem_append.1 hq with hq | hq
        · exact List.mem_append_left _ hq
        · exact List.mem_append_right _ (List.mem_cons_of_mem _ hq)
      have hmem' : ∀ q, q ∈ ear → q = e ∨ q ∈ ea ++ eb := fun q hq => by
        rw [hee] at hq
        rcases List.mem_append.1 hq with hq | hq
        · exact .inr (List.mem_append_left _ hq)
        · rcases List.mem_cons.1 hq with hq | hq
          · exact .inl hq
          · exact .inr (List.mem_append_right _ hq)
      refine ⟨ea ++ eb, updo ρf o.dst e.2.1, e.2.2.1 ++ Lp, ⟨h.sz, ?_, h.inP, ?_, ?_, h.nP, ?_, h.closed, ?_, ?_, ?_, ?_⟩, hnext _ _ hRv, ?_, ?_⟩
      · exact fun y hy hj => h.inπ y (List.mem_cons_of_mem _ hy) hj
      · intro q hq
        obtain ⟨a1, a2, a3, a4⟩ := h.inE q (hmem q hq)
        refine ⟨a1, a2, ?_, a4⟩
        rcases List.mem_cons.1 a3 with a3 | a3
        · exact absurd (by simpa using a3) (hne q hq)
        · exact a3
      · intro j hj
        rcases h.all j hj with a1 | a1 | ⟨y, hy, a1, a2⟩
        · exact .inl a1
        · exact .inr (.inl a1)
        · rcases List.mem_cons.1 hy with rfl | hy
          · cases a1
          · exact .inr (.inr ⟨y, hy, a1, a2⟩)
      · rw [List.map_append, List.nodup_append]
        exact ⟨hsplit.1, (List.nodup_cons.1 hsplit.2.1).2, fun x hx y hy => hsplit.2.2 x hx y (List.mem_cons_of_mem _ hy)⟩
      · intro t ht
        rw [updo_ne (by rw [← hdf]; exact ht f hfl hnj)]
        refine h.base t fun j hj hjn => ht j hj fun y hy => hjn y (List.mem_cons_of_mem _ hy)
      · exact fun p hp y hy => h.pa p hp y (List.mem_cons_of_mem _ hy)
      · intro p hp o' ho'
        obtain ⟨a1, a3⟩ := h.pq p hp o' ho'
        refine ⟨?_, fun t ht => ⟨?_, (a3 t ht).2⟩⟩
        · cases hq : p.2.2 with
          | inl v =>
            rw [hq] at a1
            refine ⟨a1.1, fun d hd => ?_⟩
            rw [updo_ne]
            · exact a1.2 d hd
            · intro e2
              exact hpf p hp (rf.dne p.1 f d (h.inP p hp).1 hfl (by rw [dstAt_of ho']; exact hd) (by rw [hdf]; exact e2))
          | inr R' =>
            rw [hq] at a1
            refine ⟨a1.1, ?_⟩
            rcases List.mem_cons.1 a1.2 with a4 | a4
            · exact absurd (by simpa using a4) (hpf p hp)
            · exact a4
        · rintro ⟨j, hj, ha, hd⟩
          rw [(a3 t ht).1 ⟨j, hj, ha, hd⟩]
          refine (updo_ne fun e2 => ?_).symm
          have : j = f := rf.dne j f t hj hfl hd (by rw [hdf]; exact e2)
          subst this
          have := h.pa p hp (.join j) List.mem_cons_self
          simp only [It.ix] at this
          rw [this] at ha; cases ha
      · intro q hq
        rcases h.dl q hq with a1 | ⟨e', he', a1, a2⟩ | a1
        · exact .inl a1
        · rcases hmem' e' he' with rfl | he'
          · exact .inr (.inr fun y hy => by rw [← a1, h1]; exact hnj y hy)
          · exact .inr (.inl ⟨e', he', a1, a2⟩)
        · exact .inr (.inr fun y hy => a1 y (List.mem_cons_of_mem _ hy))
      · funext t
        unfold curF
        by_cases e2 : dstAt l f = some t
        · have hl1 : earV l ear t = some e.2.1 := by
            cases hc : earV l ear t with
            | none =>
              exfalso
              unfold earV at hc
              rw [Option.map_eq_none_iff, List.find?_eq_none] at hc
              have := hc e he
              rw [h1, e2] at this
              simp at this
            | some v =>
              obtain ⟨e', he', b1, b2⟩ := earV_some hc
              have b3 : e'.1 = f := rf.dne e'.1 f t (h.inE e' he').1 hfl b1 e2
              rcases hmem' e' he' with rfl | he''
              · rw [b2]
              · exact absurd b3 (hne e' he'')
          have hl2 : earV l (ea ++ eb) t = none := earV_none fun q hq b1 => hne q hq (rf.dne q.1 f t (h.inE q (hmem q hq)).1 hfl b1 e2)
          have hno : pend.any (fun p => dstAt l p.1 == some t) = false := by
            rw [List.any_eq_false]
            intro p hp
            simp only [beq_iff_eq]
            intro b1
            exact hpf p hp (rf.dne p.1 f t (h.inP p hp).1 hfl b1 e2)
          rw [hl1, hl2]
          simp only [hno, cond_false]
          have : o.dst = some t := by rw [← hdf]; exact e2
          rw [this]
          simp [updo, upd_same]
        · have : earV l ear t = earV l (ea ++ eb) t := by rw [hee]; exact earV_drop (by rw [h1]; exact e2)
          rw [this, updo_ne (by rw [← hdf]; exact e2)]
      · rw [hee]
        simp only [EL, List.flatMap_append, List.flatMap_cons]
        have : (Lp ++ (List.flatMap (fun x : Ee => x.2.2.1) ea ++ (e.2.2.1 ++ List.flatMap (fun x : Ee => x.2.2.1) eb))).Perm (e.2.2.1 ++ (Lp ++ (List.flatMap (fun x : Ee => x.2.2.1) ea ++ List.flatMap (fun x : Ee => x.2.2.1) eb))) := by
          rw [← List.append_assoc Lp, ← List.append_assoc Lp]
          exact (List.perm_append_comm_assoc _ _ _)
        simpa using this
    · exact absurd rfl (h1 (.join f) List.mem_cons_self)

/-- Walked till i is reached. -/
theorem InvF.pops (rf : RegFacts l n b) {listed : Array Bool} {x0 : It} {πb : List It} (hx0 : x0.isJ = false) : ∀ (πa : List It) {D : List (Nat × Kd)} {pend : List Pe} {ear : List Ee} {ρf : Nat → Value} {Lp : List SProp}, InvF w0 A ro P l n ds b Lq ρ0 listed (πa ++ x0 :: πb) D pend ear ρf →
    okOrderF lou b (πa ++ x0 :: πb) = true → (∀ k, isAnc b x0.ix k = true → k < l.length → listed.getD k false = true) → ObF w0 A ro P l n ds lou K (πa ++ x0 :: πb) D Lq ρf Lp →
    ∃ D' pend' ear' ρf' Lp', InvF w0 A ro P l n ds b Lq ρ0 listed (x0 :: πb) D' pend' ear' ρf' ∧ okOrderF lou b (x0 :: πb) = true ∧ ObF w0 A ro P l n ds lou K (x0 :: πb) D' Lq ρf' Lp' ∧ curF l ρ0 pend' ear' ρf' = curF l ρ0 pend ear ρf ∧
      pend'.length = pend.length + (πa.filter fun y => !y.isJ).length ∧ (Lp ++ EL ear).Perm (Lp' ++ EL ear')
  | [], D, pend, ear, ρf, Lp, h, ho, _, hob => ⟨D, pend, ear, ρf, Lp, h, ho, hob, rfl, by simp, .refl _⟩
  | .join f :: πa, D, pend, ear, ρf, Lp, h, ho, hr, hob => by
    have ho' : okOrderF lou b (.join f :: (πa ++ x0 :: πb)) = true := ho
    have hlf : listed.getD f false = true := by
      have h1 := ho'
      simp only [okOrderF, Bool.and_eq_true, List.all_eq_true] at h1
      have h2 := h1.1.1 x0 (by simp)
      rw [hx0] at h2
      simp only [Bool.false_or] at h2
      have hff : f < l.length := by
        have hob' : ObF w0 A ro P l n ds lou K (.join f :: (πa ++ x0 :: πb)) D Lq ρf Lp := hob
        simp only [ObF] at hob'
        cases hc : l[f]? with
        | none => rw [hc] at hob'; exact hob'.elim
        | some o => exact (List.getElem?_eq_some_iff.1 hc).1
      exact hr f h2 hff
    obtain ⟨ear1, ρf1, Lp1, h1, hob1, hc1, hp1⟩ := InvF.absorb (π := πa ++ x0 :: πb) rf h ho' hlf hob
    obtain ⟨D', pend', ear', ρf', Lp', a1, a2, a3, a4, a5, a6⟩ := InvF.pops rf hx0 πa h1 (okF_tail ho') hr hob1
    exact ⟨D', pend', ear', ρf', Lp', a1, a2, a3, a4.trans hc1, by rw [a5]; simp [It.isJ], hp1.trans a6⟩
  | .dec k :: πa, D, pend, ear, ρf, Lp, h, ho, hr, hob => by
    have ho' : okOrderF lou b (.dec k :: (πa ++ x0 :: πb)) = true := ho
    have hob' : ObF w0 A ro P l n ds lou K (.dec k :: (πa ++ x0 :: πb)) D Lq ρf Lp := hob
    simp only [ObF] at hob'
    cases hk : l[k]? with
    | none => rw [hk] at hob'; exact hob'.elim
    | some o =>
      rw [hk] at hob'
      obtain ⟨R, hst, hrest⟩ := hob'
      have hj : It.join k ∈ πa ++ x0 :: πb := by
        have h1 := ho'
        simp only [okOrderF, Bool.and_eq_true, List.any_eq_true] at h1
        obtain ⟨y, hy, hy1, hy2⟩ := h1.1.1.1
        cases y with
        | op i => cases hy1
        | dec i => cases hy1
        | join i =>
          have : i = k := by simpa [It.ix] using hy2
          subst this; exact hy
      obtain ⟨hi, hc⟩ := InvF.push (x := .dec k) (π := πa ++ x0 :: πb) (kd := .inr R) (ρf' := ρf) rf h ho' rfl hk (fun _ _ => rfl) ⟨hst, hj, rfl⟩ rfl
      obtain ⟨D', pend', ear', ρf', Lp', a1, a2, a3, a4, a5, a6⟩ := InvF.pops rf hx0 πa hi (okF_tail ho') hr hrest
      exact ⟨D', pend', ear', ρf', Lp', a1, a2, a3, a4.trans hc, by rw [a5]; simp [It.isJ]; omega, a6⟩
  | .op k :: πa, D, pend, ear, ρf, Lp, h, ho, hr, hob => by
    have ho' : okOrderF lou b (.op k :: (πa ++ x0 :: πb)) = true := ho
    have hob' : ObF w0 A ro P l n ds lou K (.op k :: (πa ++ x0 :: πb)) D Lq ρf Lp := hob
    have h1 := ho'
    simp only [okOrderF, Bool.and_eq_true, List.all_eq_true] at h1
    have hq : lou.contains k = false := by
      cases hc : lou.contains k with
      | false => rfl
      | true =>
        have h1 := h1.1.1.1
        rw [hc] at h1
        simp only [Bool.not_true, Bool.false_or, List.all_eq_true] at h1
        have h2 := h1 x0 (by simp)
        rw [hx0] at h2
        simp only [Bool.false_or] at h2
        obtain ⟨h3, h4, _⟩ := h.inπ (.op k) (by simp) rfl
        have : listed.getD k false = true := hr k h2 h3
        simp only [It.ix] at h4
        rw [this] at h4; cases h4
    simp only [ObF] at hob'
    cases hk : l[k]? with
    | none => rw [hk] at hob'; exact hob'.elim
    | some o =>
      rw [hk] at hob'
      simp only [hq] at hob'
      obtain ⟨v, hst, hrest⟩ := hob'
      have hne : ∀ y ∈ πa ++ x0 :: πb, y.ix ≠ k := fun y hy => by
        have := h1.1.2 y hy
        simpa using this
      obtain ⟨hi, hc⟩ := InvF.push (x := .op k) (π := πa ++ x0 :: πb) (kd := .inl v) (ρf' := updo ρf o.dst v) rf h ho' rfl hk (fun t ht => updo_ne (by rw [← dstAt_of hk]; exact ht)) ⟨hst, fun d hd => by rw [hd]; simp [updo, upd_same], hne⟩ rfl
      obtain ⟨D', pend', ear', ρf', Lp', a1, a2, a3, a4, a5, a6⟩ := InvF.pops rf hx0 πa hi (okF_tail ho') hr hrest
      exact ⟨D', pend', ear', ρf', Lp', a1, a2, a3, a4.trans hc, by rw [a5]; simp [It.isJ]; omega, a6⟩

theorem nonJ_split {π : List It} {i : Nat} (h : ∃ x ∈ π, x.isJ = false ∧ x.ix = i) : ∃ πa x πb, π = πa ++ x :: πb ∧ x.isJ = false ∧ x.ix = i := by
  obtain ⟨x, hx, h1, h2⟩ := h
  obtain ⟨πa, πb, e⟩ := List.append_of_mem hx
  exact ⟨πa, x, πb, e, h1, h2⟩

/-- Nothing is left but what was made and is to be had. -/
theorem InvF.finish (rf : RegFacts l n b) {listed : Array Bool} : ∀ (π : List It) {D : List (Nat × Kd)} {ear : List Ee} {ρf : Nat → Value} {Lp : List SProp}, InvF w0 A ro P l n ds b Lq ρ0 listed π D [] ear ρf → okOrderF lou b π = true → (∀ x ∈ π, x.isJ = true) → (∀ j, j < l.length → listed.getD j false = true) →
    ObF w0 A ro P l n ds lou K π D Lq ρf Lp → ∃ ρ' Lp', K ρ' (Lq ++ Lp') ∧ ρ' = curF l ρ0 [] ear ρf ∧ (Lp ++ EL ear).Perm Lp'
  | [], D, ear, ρf, Lp, h, _, _, _, hob => by
    have he : ear = [] := by
      cases hc : ear with
      | nil => rfl
      | cons e r => have := (h.inE e (by rw [hc]; exact List.mem_cons_self)).2.2.1; cases this
    subst he
    refine ⟨ρf, Lp, hob, ?_, by simp [EL]⟩
    funext t
    simp [curF, earV]
  | x :: π, D, ear, ρf, Lp, h, ho, hj, hl, hob => by
    have hx := hj x List.mem_cons_self
    cases x with
    | op i => cases hx
    | dec i => cases hx
    | join f =>
      have hff : f < l.length := by
        have hob' := hob
        simp only [ObF] at hob'
        cases hc : l[f]? with
        | none => rw [hc] at hob'; exact hob'.elim
        | some o => exact (List.getElem?_eq_some_iff.1 hc).1
      obtain ⟨ear1, ρf1, Lp1, h1, hob1, hc1, hp1⟩ := InvF.absorb rf h ho (hl f hff) hob
      obtain ⟨ρ', Lp', a1, a2, a3⟩ := InvF.finish rf π h1 (okF_tail ho) (fun y hy => hj y (List.mem_cons_of_mem _ hy)) hl hob1
      exact ⟨ρ', Lp', a1, a2.trans hc1, hp1.trans a3⟩

theorem draw_soundF (rf : RegFacts l n b) (hbm : b = masks l []) {Q : Exit → Act → World → Prop} (hK : ∀ ρ L, K ρ L → G w0 A L (fun w => Q .normal (act n ρ ds) w)) :
    ∀ (k : Nat) (Lq : List SProp) (listed : Array Bool) (π : List It) (D : List (Nat × Kd)) (pend : List Pe) (ear : List Ee) (ρf : Nat → Value) (Lp : List SProp) (w : World), InvF w0 A ro P l n ds b Lq ρ0 listed π D pend ear ρf → okOrderF lou b π = true → ObF w0 A ro P l n ds lou K π D Lq ρf Lp →
      k = pend.length + (π.filter fun y => !y.isJ).length → Std w0 w → holds (star A (sl (Lq ++ (Lp ++ EL ear)))) w → wpAnyIn (WF ro) 0 P .any l.toArray Q k listed (act n (curF l ρ0 pend ear ρf) ds) w := by
  intro k
  induction k with
  | zero =>
    intro Lq listed π D pend ear ρf Lp w hI ho hob hk hw hh
    have hp : pend = [] := List.eq_nil_of_length_eq_zero (by omega)
    have hπ : (π.filter fun y => !y.isJ) = [] := List.eq_nil_of_length_eq_zero (by omega)
    rw [List.filter_eq_nil_iff] at hπ
    have hπ : ∀ x ∈ π, x.isJ = true := fun x hx => by simpa using hπ x hx
    subst hp
    have hl : ∀ j, j < l.length → listed.getD j false = true := fun j hj => by
      rcases hI.all j hj with h1 | ⟨p, hp, _⟩ | ⟨x, hx, h1, _⟩
      · exact h1
      · cases hp
      · rw [hπ x hx] at h1; cases h1
    refine ⟨?_, ?_⟩
    · unfold Region.ready
      rw [List.filter_eq_nil_iff]
      intro i hi
      have hil : i < l.length := by simpa using hi
      have h1 := hl i hil
      have h2 : listed.getD i true = true := by
        have his : i < listed.size := by rw [hI.sz]; exact hil
        simp [his] at h1 ⊢
        exact h1
      rw [h2]
      simp
    · obtain ⟨ρ', Lp', a1, a2, a3⟩ := InvF.finish rf π hI ho hπ hl hob
      rw [← a2]
      exact hK ρ' _ a1 w hw (hh.ent ((Ent.refl A).star (sl_perm (a3.append_left Lq))))
  | succ k ih =>
    intro Lq listed π D pend ear ρf Lp w hI ho hob hk hw hh
    have getT : ∀ i, i < l.length → listed.getD i true = listed.getD i false := fun i hi => by
      have his : i < listed.size := by rw [hI.sz]; exact hi
      simp [his]
    refine ⟨?_, ?_⟩
    · -- something is ready: the least that is not listed
      intro hnil
      exfalso
      obtain ⟨j, hj, hjl⟩ : ∃ j, j < l.length ∧ listed.getD j false = false := by
        cases hpd : pend with
        | cons p _ => exact ⟨p.1, (hI.inP p (by rw [hpd]; exact List.mem_cons_self)).1, (hI.inP p (by rw [hpd]; exact List.mem_cons_self)).2⟩
        | nil =>
          cases hf : (π.filter fun y => !y.isJ) with
          | cons x _ =>
            have hx : x ∈ π.filter fun y => !y.isJ := by rw [hf]; exact List.mem_cons_self
            rw [List.mem_filter] at hx
            have h1 := hI.inπ x hx.1 (by simpa using hx.2)
            exact ⟨x.ix, h1.1, h1.2.1⟩
          | nil => rw [hpd, hf] at hk; simp at hk
      have key : ∀ j, j < l.length → listed.getD j false = true := by
        intro j
        induction j using Nat.strongRecOn with
        | _ j ihj =>
          intro hj
          cases hc : listed.getD j false with
          | true => rfl
          | false =>
            have : j ∈ Region.ready .any l.toArray listed := by
              unfold Region.ready
              rw [List.mem_filter]
              refine ⟨by simpa using hj, ?_⟩
              rw [getT j hj, hc]
              simp only [Bool.not_false, Bool.true_and, List.getElem?_toArray, List.getElem?_eq_getElem hj, Option.map_some, Option.getD_some]
              rw [Array.all_eq_true_iff_forall_mem]
              intro e he
              cases hb : Region.binds .any e with
              | false => rfl
              | true =>
                have hlt := rf.back j l[j] (List.getElem?_eq_getElem hj) e he hb
                simpa using ihj e.on hlt (by omega)
            rw [hnil] at this; cases this
      rw [key j hj] at hjl; cases hjl
    · intro i hi
      unfold Region.ready at hi
      rw [List.mem_filter] at hi
      obtain ⟨hil, hi⟩ := hi
      have hil : i < l.length := by simpa using hil
      rw [getT i hil] at hi
      simp only [Bool.and_eq_true, List.getElem?_toArray, List.getElem?_eq_getElem hil, Option.map_some, Option.getD_some] at hi
      obtain ⟨hnl, hed⟩ := hi
      have hnl : listed.getD i false = false := by simpa using hnl
      rw [Array.all_eq_true_iff_forall_mem] at hed
      have hoi : l[i]? = some l[i] := List.getElem?_eq_getElem hil
      -- its ancestors are listed
      have hanc : ∀ j, isAnc b i j = true → j < l.length → listed.getD j false = true := by
        intro j ha hj
        obtain ⟨e, he, hb, hx⟩ := rf.step i l[i] hoi j hj ha
        have h1 := hed e he
        rw [hb] at h1
        simp only [Bool.not_true, Bool.false_or] at h1
        rcases hx with rfl | hx
        · exact h1
        · exact hI.closed e.on j h1 hx hj
      have hlsz : i < listed.size := by rw [hI.sz]; exact hil
      have hclosed' : ∀ x y, (listed.setIfInBounds i true).getD x false = true → isAnc b x y = true → y < l.length → (listed.setIfInBounds i true).getD y false = true := by
        intro x y hx ha hy
        rw [getD_set hlsz] at hx ⊢
        split
        · rfl
        · split at hx
          · rename_i e; subst e; exact hanc y ha hy
          · exact hI.closed x y hx ha hy
      have hopd := rf.op i l[i] hoi
      -- the case of an operation that has been walked and not run
      have pendCase : ∀ (π : List It) (D : List (Nat × Kd)) (pend : List Pe) (ear : List Ee) (ρf : Nat → Value) (Lp : List SProp), InvF w0 A ro P l n ds b Lq ρ0 listed π D pend ear ρf → okOrderF lou b π = true → ObF w0 A ro P l n ds lou K π D Lq ρf Lp → k + 1 = pend.length + (π.filter fun y => !y.isJ).length →
          holds (star A (sl (Lq ++ (Lp ++ EL ear)))) w → (∃ p ∈ pend, p.1 = i) → wpOpIn (WF ro) 0 P l.toArray Q i (wpAnyIn (WF ro) 0 P .any l.toArray Q k (listed.setIfInBounds i true)) (act n (curF l ρ0 pend ear ρf) ds) w := by
        rintro π D pend ear ρf Lp hI ho hob hk hh ⟨p, hp, hpi⟩
        obtain ⟨hst, hlk⟩ := hI.pq p hp l[i] (by rw [hpi]; exact hoi)
        have hearn : ∀ t ∈ (l[i]).looksAt l.toArray, earV l ear t = none := fun t ht => earV_none fun e he hed2 => by
          obtain ⟨h1, h2, h3, _⟩ := hI.inE e he
          rcases rf.look i l[i] hoi t ht e.1 h1 hed2 with h4 | h4 | h4
          · have := hI.pa p hp _ h3
            simp only [It.ix] at this
            rw [hpi, h4] at this; cases this
          · rw [← h4, hnl] at h2; cases h2
          · have := hI.closed e.1 i h2 h4 hil
            rw [hnl] at this; cases this
        have hcl : ∀ t ∈ (l[i]).looksAt l.toArray, curF l ρ0 pend ear ρf t = p.2.1 t := by
          intro t ht
          unfold curF
          rw [hearn t ht]
          simp only
          cases hany : pend.any (fun p => dstAt l p.1 == some t) with
          | true =>
            rw [cond_true]
            rw [List.any_eq_true] at hany
            obtain ⟨q, hq, hqd⟩ := hany
            have hqd : dstAt l q.1 = some t := by simpa using hqd
            refine ((hlk t ht).2 fun j hj ha e => ?_).symm
            have : j = q.1 := rf.dne j q.1 t hj (hI.inP q hq).1 e hqd
            rw [hpi] at ha
            rw [this] at ha
            have := hanc q.1 ha (hI.inP q hq).1
            rw [(hI.inP q hq).2] at this; cases this
          | false =>
            rw [cond_false]
            by_cases hex : ∃ j, j < l.length ∧ isAnc b p.1 j = true ∧ dstAt l j = some t
            · exact ((hlk t ht).1 hex).symm
            · have hno : ∀ j, j < l.length → isAnc b p.1 j = true → dstAt l j ≠ some t := fun j hj ha e => hex ⟨j, hj, ha, e⟩
              rw [(hlk t ht).2 hno]
              refine hI.base t fun j hj hjn e => ?_
              have hjp : ∀ q ∈ pend, q.1 ≠ j := fun q hq e2 => by
                have : pend.any (fun p => dstAt l p.1 == some t) = true := by
                  rw [List.any_eq_true]
                  exact ⟨q, hq, by rw [e2, e]; simp⟩
                rw [hany] at this; cases this
              rcases rf.look i l[i] hoi t ht j hj e with h1 | h1 | h1
              · exact hno j hj (by rw [hpi]; exact h1) e
              · exact hjp p hp (by rw [hpi, h1])
              · rcases hI.all j hj with h2 | ⟨q, hq, e2⟩ | ⟨y, hy, _, h2⟩
                · have := hI.closed j i h2 h1 hil
                  rw [hnl] at this; cases this
                · exact hjp q hq e2
                · exact hjn y hy h2
        obtain ⟨pa, pb, hpp⟩ := List.append_of_mem hp
        have hnP := hI.nP
        rw [hpp, List.map_append, List.map_cons] at hnP
        have hsplit := List.nodup_append.1 hnP
        have hne : ∀ q ∈ pa ++ pb, q.1 ≠ i := by
          intro q hq e
          rcases List.mem_append.1 hq with hq | hq
          · exact hsplit.2.2 q.1 (List.mem_map.2 ⟨q, hq, rfl⟩) p.1 List.mem_cons_self (by rw [e, hpi])
          · exact (List.nodup_cons.1 hsplit.2.1).1 (by rw [hpi, ← e]; exact List.mem_map.2 ⟨q, hq, rfl⟩)
        have hmem : ∀ q, q ∈ pa ++ pb → q ∈ pend := fun q hq => by
          rw [hpp]
          rcases List.mem_append.1 hq with hq | hq
          · exact List.mem_append_left _ hq
          · exact List.mem_append_right _ (List.mem_cons_of_mem _ hq)
        have hmem' : ∀ q, q ∈ pend → q = p ∨ q ∈ pa ++ pb := fun q hq => by
          rw [hpp] at hq
          rcases List.mem_append.1 hq with hq | hq
          · exact .inr (List.mem_append_left _ hq)
          · rcases List.mem_cons.1 hq with hq | hq
            · exact .inl hq
            · exact .inr (List.mem_append_right _ hq)
        have hanyd : ∀ t, (l[i]).dst ≠ some t → pend.any (fun p => dstAt l p.1 == some t) = (pa ++ pb).any (fun p => dstAt l p.1 == some t) := fun t e => by
          have hpd : (dstAt l p.1 == some t) = false := by rw [hpi, dstAt_of hoi]; simpa using e
          rw [hpp]
          simp [hpd]
        have hanyn : ∀ t, (l[i]).dst = some t → (pa ++ pb).any (fun p => dstAt l p.1 == some t) = false := fun t e => by
          rw [List.any_eq_false]
          intro q hq
          simp only [beq_iff_eq]
          intro e2
          exact hne q hq (rf.dne q.1 i t (hI.inP q (hmem q hq)).1 hil e2 (by rw [dstAt_of hoi]; exact e))
        have hearn' : ∀ t, (l[i]).dst = some t → ∀ e ∈ ear, dstAt l e.1 ≠ some t := fun t e e' he' e2 => by
          obtain ⟨h1, h2, _, _⟩ := hI.inE e' he'
          have := rf.dne e'.1 i t h1 hil e2 (by rw [dstAt_of hoi]; exact e)
          rw [this, hnl] at h2; cases h2
        have keepπ : ∀ y ∈ π, y.isJ = false → y.ix < l.length ∧ (listed.setIfInBounds i true).getD y.ix false = false ∧ ∀ q ∈ pa ++ pb, q.1 ≠ y.ix := by
          intro y hy hj
          obtain ⟨h1, h2, h3⟩ := hI.inπ y hy hj
          have hji : y.ix ≠ i := fun e => h3 p hp (by rw [hpi, e])
          exact ⟨h1, by rw [getD_set hlsz, if_neg hji]; exact h2, fun q hq => h3 q (hmem q hq)⟩
        have keepP : ∀ q ∈ pa ++ pb, q.1 < l.length ∧ (listed.setIfInBounds i true).getD q.1 false = false := by
          intro q hq
          obtain ⟨h1, h2⟩ := hI.inP q (hmem q hq)
          exact ⟨h1, by rw [getD_set hlsz, if_neg (hne q hq)]; exact h2⟩
        have keepL : ∀ j, listed.getD j false = true → (listed.setIfInBounds i true).getD j false = true := fun j hj => by
          rw [getD_set hlsz]; split <;> simp_all
        have keepAll : ∀ j, j < l.length → (listed.setIfInBounds i true).getD j false = true ∨ (∃ q ∈ pa ++ pb, q.1 = j) ∨ ∃ x ∈ π, x.isJ = false ∧ x.ix = j := by
          intro j hj
          by_cases e : j = i
          · left; rw [getD_set hlsz, if_pos e]
          · rcases hI.all j hj with h1 | ⟨q, hq, e2⟩ | h1
            · exact .inl (keepL j h1)
            · rcases hmem' q hq with rfl | hq'
              · exact absurd (e2.symm.trans hpi) e
              · exact .inr (.inl ⟨q, hq', e2⟩)
            · exact .inr (.inr h1)
        have keepN : ((pa ++ pb).map (·.1)).Nodup := by
          rw [List.map_append, List.nodup_append]
          exact ⟨hsplit.1, (List.nodup_cons.1 hsplit.2.1).2, fun x hx y hy => hsplit.2.2 x hx y (List.mem_cons_of_mem _ hy)⟩
        have hlen : k = (pa ++ pb).length + (π.filter fun y => !y.isJ).length := by rw [hpp] at hk; simp at hk ⊢; omega
        cases hkd : p.2.2 with
        | inl v0 =>
          rw [hkd] at hst
          have hrun := (hst.1 (Lp ++ EL ear)).run (ρ' := curF l ρ0 pend ear ρf) (by intro c e; rw [e] at hopd; cases hopd) (by intro cs bb e; rw [e] at hopd; cases hopd) (rf.dlt i l[i] hoi) hcl hw hh
            (next := wpAnyIn (WF ro) 0 P .any l.toArray Q k (listed.setIfInBounds i true)) (Q := Q) (fun v u M w' hr hvu hw' hh' => ?_)
          · unfold wpOpIn
            simp only [List.getElem?_toArray, hoi]
            split
            · rename_i hwant; rw [if_pos hwant] at hrun; exact hrun
            · rename_i hwant; rw [if_neg hwant] at hrun; exact ⟨fun _ _ => trivial, hrun⟩
          · obtain ⟨rfl, rfl⟩ := hr
            have hcur : updo (curF l ρ0 pend ear ρf) (l[i]).dst v = curF l ρ0 (pa ++ pb) ear ρf := by
              funext t
              by_cases e : (l[i]).dst = some t
              · rw [e]
                simp only [updo, upd_same, curF, hanyn t e, earV_none (hearn' t e), cond_false]
                rw [hvu t e]
                exact (hst.2 t e).symm
              · rw [updo_ne e]
                unfold curF
                rw [hanyd t e]
            rw [hcur]
            refine ih Lq (listed.setIfInBounds i true) π D (pa ++ pb) ear ρf Lp w' ?_ ho hob hlen hw' hh'
            refine ⟨by simpa using hI.sz, keepπ, keepP, ?_, keepAll, keepN, hI.nE, hclosed', hI.base, fun q hq => hI.pa q (hmem q hq), fun q hq => hI.pq q (hmem q hq), ?_⟩
            · intro e he
              obtain ⟨h1, h2, h3⟩ := hI.inE e he
              exact ⟨h1, keepL _ h2, h3⟩
            · intro q hq
              rcases hI.dl q hq with ⟨p', hp', h1, h2⟩ | h1
              · rcases hmem' p' hp' with rfl | hp''
                · rw [hkd] at h2; cases h2
                · exact .inl ⟨p', hp'', h1, h2⟩
              · exact .inr h1
        | inr R =>
          rw [hkd] at hst
          have hrun := (hst.1 (Lp ++ EL ear)).run (ρ' := curF l ρ0 pend ear ρf) (by intro c e; rw [e] at hopd; cases hopd) (by intro cs bb e; rw [e] at hopd; cases hopd) (rf.dlt i l[i] hoi) hcl hw hh
            (next := wpAnyIn (WF ro) 0 P .any l.toArray Q k (listed.setIfInBounds i true)) (Q := Q) (fun v u M w' hr hvu hw' hh' => ?_)
          · unfold wpOpIn
            simp only [List.getElem?_toArray, hoi]
            split
            · rename_i hwant; rw [if_pos hwant] at hrun; exact hrun
            · rename_i hwant; rw [if_neg hwant] at hrun; exact ⟨fun _ _ => trivial, hrun⟩
          · obtain ⟨M', hM, hR⟩ := hr
            have hcur : updo (curF l ρ0 pend ear ρf) (l[i]).dst v = curF l ρ0 (pa ++ pb) ((i, u, M', R) :: ear) ρf := by
              funext t
              by_cases e : (l[i]).dst = some t
              · rw [e]
                have : earV l ((i, u, M', R) :: ear) t = some u := earV_head (e := (i, u, M', R)) (by rw [dstAt_of hoi]; exact e)
                simp only [updo, upd_same, curF, this]
                exact hvu t e
              · rw [updo_ne e]
                unfold curF
                rw [hanyd t e, earV_cons (e := (i, u, M', R)) (by rw [dstAt_of hoi]; exact e)]
            rw [hcur]
            refine ih Lq (listed.setIfInBounds i true) π D (pa ++ pb) ((i, u, M', R) :: ear) ρf Lp w' ?_ ho hob hlen hw' ?_
            · refine ⟨by simpa using hI.sz, keepπ, keepP, ?_, keepAll, keepN, ?_, hclosed', hI.base, fun q hq => hI.pa q (hmem q hq), fun q hq => hI.pq q (hmem q hq), ?_⟩
              · intro e he
                rcases List.mem_cons.1 he with rfl | he
                · exact ⟨hil, by rw [getD_set hlsz, if_pos rfl], by have := hst.2; rwa [hpi] at this, hR⟩
                · obtain ⟨h1, h2, h3⟩ := hI.inE e he
                  exact ⟨h1, keepL _ h2, h3⟩
              · rw [List.map_cons, List.nodup_cons]
                refine ⟨fun hm => ?_, hI.nE⟩
                obtain ⟨e, he, h1⟩ := List.mem_map.1 hm
                have h2 := (hI.inE e he).2.1
                have h1 : e.1 = i := h1
                rw [h1, hnl] at h2; cases h2
              · intro q hq
                rcases hI.dl q hq with ⟨p', hp', h1, h2⟩ | ⟨e, he, h1⟩ | h1
                · rcases hmem' p' hp' with rfl | hp''
                  · rw [hkd] at h2
                    exact .inr (.inl ⟨_, List.mem_cons_self, by show i = q.1; rw [← h1, hpi], by show R = q.2; exact Sum.inr.inj h2⟩)
                  · exact .inl ⟨p', hp'', h1, h2⟩
                · exact .inr (.inl ⟨e, List.mem_cons_of_mem _ he, h1⟩)
                · exact .inr (.inr h1)
            · refine (hh'.ent ((Ent.refl A).star hM)).ent ((Ent.refl A).star (sl_perm ?_))
              show (Lq ++ ((Lp ++ EL ear) ++ M')).Perm (Lq ++ (Lp ++ (M' ++ EL ear)))
              refine List.Perm.append_left _ ?_
              rw [List.append_assoc]
              exact List.Perm.append_left _ List.perm_append_comm
      rcases hI.all i hil with h1 | h1 | h1
      · rw [hnl] at h1; cases h1
      · exact pendCase π D pend ear ρf Lp hI ho hob (by omega) hh h1
      · obtain ⟨πa, x0, πb, hπ, hx0, hxi⟩ := nonJ_split h1
        subst hπ
        obtain ⟨D', pend', ear', ρf', Lp', hI', ho', hob', hcur, hlen, hperm⟩ := InvF.pops rf hx0 πa hI ho (by rw [hxi]; exact hanc) hob
        rw [← hcur]
        replace hh := hh.ent ((Ent.refl A).star (sl_perm (hperm.append_left Lq)))
        have hk' : k + 1 = pend'.length + ((x0 :: πb).filter fun y => !y.isJ).length := by
          rw [hlen]
          simp only [List.filter_append, List.length_append] at hk
          omega
        cases x0 with
        | join j => cases hx0
        | dec j =>
          have hji : j = i := hxi
          subst hji
          have hob2 := hob'
          simp only [ObF, hoi] at hob2
          obtain ⟨R, hst, hrest⟩ := hob2
          have hj : It.join j ∈ πb := by
            have h1 := ho'
            simp only [okOrderF, Bool.and_eq_true, List.any_eq_true] at h1
            obtain ⟨y, hy, hy1, hy2⟩ := h1.1.1.1
            cases y with
            | op i => cases hy1
            | dec i => cases hy1
            | join i =>
              have : i = j := by simpa [It.ix] using hy2
              subst this; exact hy
          obtain ⟨hI2, hc2⟩ := InvF.push (x := .dec j) (kd := .inr R) (ρf' := ρf') rf hI' ho' rfl hoi (fun _ _ => rfl) ⟨hst, hj, rfl⟩ rfl
          rw [← hc2]
          exact pendCase πb _ _ _ _ Lp' hI2 (okF_tail ho') hrest (by simp [It.isJ] at hk' ⊢; omega) hh ⟨_, List.mem_cons_self, rfl⟩
        | op j =>
          have hji : j = i := hxi
          subst hji
          have hne : ∀ y ∈ πb, y.ix ≠ j := fun y hy => by
            have h1 := ho'
            simp only [okOrderF, Bool.and_eq_true, List.all_eq_true] at h1
            simpa using h1.1.2 y hy
          cases hl : lou.contains j with
          | false =>
            have hob2 := hob'
            simp only [ObF, hoi, hl] at hob2
            obtain ⟨v, hst, hrest⟩ := hob2
            obtain ⟨hI2, hc2⟩ := InvF.push (x := .op j) (kd := .inl v) (ρf' := updo ρf' (l[j]).dst v) rf hI' ho' rfl hoi (fun t ht => updo_ne (by rw [← dstAt_of hoi]; exact ht)) ⟨hst, fun d hd => by rw [hd]; simp [updo, upd_same], hne⟩ rfl
            rw [← hc2]
            exact pendCase πb _ _ _ _ Lp' hI2 (okF_tail ho') hrest (by simp [It.isJ] at hk' ⊢; omega) hh ⟨_, List.mem_cons_self, rfl⟩
          | true =>
            simp only [ObF, hoi, hl, if_true] at hob'
            have hancs := okF_anc ho' rfl
            obtain ⟨hπl, hπn, hπp⟩ := hI'.inπ (.op j) List.mem_cons_self rfl
            simp only [It.ix] at hπl hπn hπp hancs
            have hcl : ∀ t ∈ (l[j]).looksAt l.toArray, curF l ρ0 pend' ear' ρf' t = ρf' t := by
              intro t ht
              unfold curF
              have hen : earV l ear' t = none := earV_none fun e he hed2 => by
                obtain ⟨h1, h2, h3, _⟩ := hI'.inE e he
                rcases rf.look j l[j] hoi t ht e.1 h1 hed2 with h4 | h4 | h4
                · rcases List.mem_cons.1 h3 with h5 | h5
                  · cases h5
                  · have := hancs _ h5
                    simp only [It.ix] at this
                    rw [h4] at this; cases this
                · rw [← h4, hnl] at h2; cases h2
                · have := hI'.closed e.1 j h2 h4 hil
                  rw [hnl] at this; cases this
              have hno : pend'.any (fun p => dstAt l p.1 == some t) = false := by
               rw [List.any_eq_false]
               intro q hq
               simp only [beq_iff_eq]
               intro hqd
               have hql := (hI'.inP q hq).1
               rcases rf.look j l[j] hoi t ht q.1 hql hqd with h2 | h2 | h2
               · have := hanc q.1 h2 hql
                 rw [(hI'.inP q hq).2] at this; cases this
               · exact hπp q hq h2.symm
               · have := hI'.pa q hq (.op j) List.mem_cons_self
                 simp only [It.ix] at this
                 rw [this] at h2; cases h2
              rw [hen, hno]
              rfl
            have hh1 : holds (star (star A (sl (EL ear'))) (sl (Lq ++ Lp'))) w := by
              refine hh.ent ?_
              refine ((Ent.refl A).star ((sl_perm (show (Lq ++ (Lp' ++ EL ear')).Perm (EL ear' ++ (Lq ++ Lp')) from ?_)).trans (sl_append_to _ _))).trans (Ent.assoc' _ _ _)
              rw [← List.append_assoc]
              exact List.perm_append_comm
            have hrun := (hob' (sl (EL ear'))).run (ρ' := curF l ρ0 pend' ear' ρf') (by intro c e; rw [e] at hopd; cases hopd) (by intro cs bb e; rw [e] at hopd; cases hopd) (rf.dlt j l[j] hoi) hcl hw hh1
              (next := wpAnyIn (WF ro) 0 P .any l.toArray Q k (listed.setIfInBounds j true)) (Q := Q) (fun v u M w' hr hvu hw' hh' => ?_)
            · unfold wpOpIn
              simp only [List.getElem?_toArray, hoi]
              split
              · rename_i hwant; rw [if_pos hwant] at hrun; exact hrun
              · rename_i hwant; rw [if_neg hwant] at hrun; exact ⟨fun _ _ => trivial, hrun⟩
            · obtain ⟨Lq2, Lp2, he, hsy, hob2⟩ := hr
              have hp0 : Lq2 = Lq ∨ pend' = [] := hsy.imp id fun hs => by
                cases hpd : pend' with
                | nil => rfl
                | cons q rest =>
                  exfalso
                  have hq : q ∈ pend' := by rw [hpd]; exact List.mem_cons_self
                  obtain ⟨hql, hqn⟩ := hI'.inP q hq
                  rw [← hbm] at hs
                  simp only [okSyncF, List.all_eq_true, List.mem_range, Bool.or_eq_true, beq_iff_eq, List.any_eq_true, Bool.and_eq_true] at hs
                  rcases hs q.1 hql with ⟨y, hy, h1, h2⟩ | h2 | h2
                  · exact (hI'.inπ y (List.mem_cons_of_mem _ hy) (by simpa using h1)).2.2 q hq h2.symm
                  · exact hπp q hq h2
                  · rw [hanc q.1 h2 hql] at hqn; cases hqn
              have hh2 : holds (star A (sl (Lq2 ++ (Lp2 ++ EL ear')))) w' := by
                refine (hh'.ent ((Ent.refl _).star he)).ent ?_
                refine (Ent.assoc _ _ _).trans ((Ent.refl A).star ((sl_append_of _ _).trans (sl_perm (show (EL ear' ++ (Lq2 ++ Lp2)).Perm (Lq2 ++ (Lp2 ++ EL ear')) from ?_))))
                exact List.perm_append_comm.trans (by rw [List.append_assoc])
              have hnd : ∀ q ∈ pend', ∀ t, (l[j]).dst = some t → dstAt l q.1 ≠ some t := fun q hq t e e2 =>
                hπp q hq (rf.dne q.1 j t (hI'.inP q hq).1 hil e2 (by rw [dstAt_of hoi]; exact e))
              have hnde : ∀ t, (l[j]).dst = some t → ∀ e ∈ ear', dstAt l e.1 ≠ some t := fun t e e' he' e2 => by
                obtain ⟨h1, h2, _, _⟩ := hI'.inE e' he'
                have := rf.dne e'.1 j t h1 hil e2 (by rw [dstAt_of hoi]; exact e)
                rw [this, hnl] at h2; cases h2
              have hcur2 : updo (curF l ρ0 pend' ear' ρf') (l[j]).dst v = curF l ρ0 pend' ear' (updo ρf' (l[j]).dst u) := by
                funext t
                by_cases e : (l[j]).dst = some t
                · have h2 : pend'.any (fun p => dstAt l p.1 == some t) = false := by
                    rw [List.any_eq_false]
                    intro q hq
                    simp only [beq_iff_eq]
                    exact hnd q hq t e
                  rw [e]
                  simp only [updo, upd_same, curF, h2, earV_none (hnde t e), cond_false]
                  rw [hvu t e]
                · rw [updo_ne e]
                  unfold curF
                  rw [updo_ne e]
              rw [hcur2]
              refine ih Lq2 (listed.setIfInBounds j true) πb D' pend' ear' _ Lp2 w' ?_ (okF_tail ho') hob2 (by simp [It.isJ] at hk' ⊢; omega) hw' hh2
              refine ⟨by simpa using hI'.sz, ?_, ?_, ?_, ?_, hI'.nP, hI'.nE, hclosed', ?_, ?_, ?_, ?_⟩
              · intro y hy hyj
                obtain ⟨h2, h3, h4⟩ := hI'.inπ y (List.mem_cons_of_mem _ hy) hyj
                exact ⟨h2, by rw [getD_set hlsz, if_neg (hne y hy)]; exact h3, h4⟩
              · intro q hq
                obtain ⟨h2, h3⟩ := hI'.inP q hq
                exact ⟨h2, by rw [getD_set hlsz, if_neg (hπp q hq)]; exact h3⟩
              · intro e he2
                obtain ⟨h1, h2, h3, h4⟩ := hI'.inE e he2
                refine ⟨h1, by rw [getD_set hlsz]; split <;> simp_all, ?_, h4⟩
                rcases List.mem_cons.1 h3 with h5 | h5
                · cases h5
                · exact h5
              · intro i' hi'
                rw [getD_set hlsz]
                by_cases e : i' = j
                · left; rw [if_pos e]
                · rw [if_neg e]
                  rcases hI'.all i' hi' with h2 | h2 | ⟨y, hy, h2, h3⟩
                  · exact .inl h2
                  · exact .inr (.inl h2)
                  · rcases List.mem_cons.1 hy with rfl | hy
                    · exact absurd h3.symm e
                    · exact .inr (.inr ⟨y, hy, h2, h3⟩)
              · intro t ht
                rw [updo_ne (by rw [← dstAt_of hoi]; exact ht j hil hne)]
                exact hI'.base t fun i' hi' hjn => ht i' hi' fun y hy => hjn y (List.mem_cons_of_mem _ hy)
              · intro q hq y hy
                exact hI'.pa q hq y (List.mem_cons_of_mem _ hy)
              · intro q hq o' ho2
                rcases hp0 with hp0 | hp0
                case inr => rw [hp0] at hq; cases hq
                subst hp0
                obtain ⟨h2, h4⟩ := hI'.pq q hq o' ho2
                refine ⟨?_, fun t ht => ⟨?_, (h4 t ht).2⟩⟩
                · cases hkq : q.2.2 with
                  | inl v1 =>
                    rw [hkq] at h2
                    refine ⟨h2.1, fun d hd => ?_⟩
                    rw [updo_ne]
                    · exact h2.2 d hd
                    · intro e; exact hnd q hq d e (by rw [dstAt_of ho2]; exact hd)
                  | inr R1 =>
                    rw [hkq] at h2
                    refine ⟨h2.1, ?_⟩
                    rcases List.mem_cons.1 h2.2 with h5 | h5
                    · cases h5
                    · exact h5
                · rintro ⟨i', hi', ha, hd⟩
                  rw [(h4 t ht).1 ⟨i', hi', ha, hd⟩]
                  refine (updo_ne fun e => ?_).symm
                  have : i' = j := rf.dne i' j t hi' hil hd (by rw [dstAt_of hoi]; exact e)
                  subst this
                  have := hI'.pa q hq (.op i') List.mem_cons_self
                  simp only [It.ix] at this
                  rw [this] at ha; cases ha
              · intro q hq
                rcases hI'.dl q hq with h2 | h2 | h2
                · exact .inl h2
                · exact .inr (.inl h2)
                · exact .inr (.inr fun y hy => h2 y (List.mem_cons_of_mem _ hy))

/-- **A region that draws its order, with operations that float.** -/
theorem g_drawF {L : List SProp} {Q : Exit → Act → World → Prop} {ρ : Nat → Value} {id : Nat} {l : List Oper} (lou : List Nat) (π : List It) (Lq : List SProp) {Lp : List SProp} (hm : P.follows .mixedOrders = true)
    (hok : (okRegion l n (masks l []) && okOrderF lou (masks l []) π && okPermF l.length π) = true) [tk : Take L Lq Lp]
    (h : ObF w0 A ro P l n ds lou (fun ρ' L' => G w0 A L' (fun w => Q .normal (act n ρ' ds) w)) π [] Lq ρ Lp) :
    G w0 A L (fun w => (Code.region id l.toArray true).wpIn (WF ro) 0 P Q (act n ρ ds) w) := by
  simp only [Bool.and_eq_true] at hok
  obtain ⟨⟨h1, h2⟩, h3⟩ := hok
  refine G.perm tk.perm fun w hw hh => ?_
  refine wpIn_region_any hm ?_
  simp only [okPermF, Bool.and_eq_true, beq_iff_eq, List.all_eq_true, List.mem_range, List.any_eq_true] at h3
  obtain ⟨⟨hlen, hall⟩, hlt⟩ := h3
  have hrep : ∀ j, (Array.replicate l.toArray.size false).getD j false = false := fun j => by
    simp only [Array.getD_eq_getD_getElem?, Array.getElem?_replicate]
    split <;> rfl
  have := draw_soundF (ro := ro) (P := P) (ρ0 := ρ) (RegFacts.of h1) rfl (Q := Q) (fun _ _ x => x) l.toArray.size Lq (Array.replicate l.toArray.size false) π [] [] [] ρ Lp w.drew ?_ h2 h (by simp [hlen]) (hw.trans (.drew w)) ((hh.le (Le.refl _)).ent (by simp only [EL, List.flatMap_nil, List.append_nil]; exact Ent.refl _))
  · have e : curF l ρ [] [] ρ = ρ := by funext t; simp [curF, earV]
    rw [e] at this
    exact this
  · refine ⟨by simp, ?_, by simp, by simp, ?_, by simp, by simp, ?_, ?_, by simp, by simp, by simp⟩
    · intro x hx _
      have := hlt x hx
      rw [Nat.blt_eq] at this
      exact ⟨this, hrep _, by simp⟩
    · intro j hj
      obtain ⟨x, hx, h4, h5⟩ := hall j hj
      exact .inr (.inr ⟨x, hx, by simpa using h4, h5⟩)
    · intro i j hi
      rw [hrep i] at hi; cases hi
    · intro t _
      rfl

variable {Lq : List SProp} {i : Nat} {π : List It} {D : List (Nat × Kd)} {ρ : Nat → Value} {Lp : List SProp} {o : Oper}
theorem obf_nil (h : K ρ (Lq ++ Lp)) : ObF w0 A ro P l n ds lou K [] D Lq ρ Lp := h
theorem obf_q (hi : l[i]? = some o) (hl : lou.contains i = false) (h : ∃ v, (∀ X, OStep w0 A ro P l.toArray n ds ρ (Lq ++ X) o (fun u M => u = v ∧ M = Lq ++ X)) ∧ ObF w0 A ro P l n ds lou K π D Lq (updo ρ o.dst v) Lp) :
    ObF w0 A ro P l n ds lou K (.op i :: π) D Lq ρ Lp := by
  simp only [ObF, hi, hl]
  exact h
theorem obf_l (hi : l[i]? = some o) (hl : lou.contains i = true) (h : ∀ X, OStep w0 (star A X) ro P l.toArray n ds ρ (Lq ++ Lp) o (fun v M => ∃ Lp', Ent (sl M) (sl (Lq ++ Lp')) ∧ ObF w0 A ro P l n ds lou K π D Lq (updo ρ o.dst v) Lp')) :
    ObF w0 A ro P l n ds lou K (.op i :: π) D Lq ρ Lp := by
  simp only [ObF, hi, hl, if_true]
  exact fun X Q hn => h X Q fun v M ⟨Lp', h1, h2⟩ => hn v M ⟨Lq, Lp', h1, .inl rfl, h2⟩
theorem obf_s (Lq' : List SProp) (hi : l[i]? = some o) (hl : lou.contains i = true) (hs : okSyncF (masks l []) l.length i π = true)
    (h : ∀ X, OStep w0 (star A X) ro P l.toArray n ds ρ (Lq ++ Lp) o (fun v M => ∃ Lp', Ent (sl M) (sl (Lq' ++ Lp')) ∧ ObF w0 A ro P l n ds lou K π D Lq' (updo ρ o.dst v) Lp')) :
    ObF w0 A ro P l n ds lou K (.op i :: π) D Lq ρ Lp := by
  simp only [ObF, hi, hl, if_true]
  exact fun X Q hn => h X Q fun v M ⟨Lp', h1, h2⟩ => hn v M ⟨Lq', Lp', h1, .inr hs, h2⟩
/-- A floating operation is told: what is said of what it makes. -/
theorem obf_d (R : Kd) (hi : l[i]? = some o) (h : ∀ X, OStep w0 A ro P l.toArray n ds ρ (Lq ++ X) o (fun v M => ∃ M', Ent (sl M) (sl (Lq ++ (X ++ M'))) ∧ R v M')) (k : ObF w0 A ro P l n ds lou K π ((i, R) :: D) Lq ρ Lp) :
    ObF w0 A ro P l n ds lou K (.dec i :: π) D Lq ρ Lp := by
  simp only [ObF, hi]
  exact ⟨R, h, k⟩
theorem obf_j {R : Kd} (hi : l[i]? = some o) (hR : (i, R) ∈ D) (h : ∀ v M, R v M → ObF w0 A ro P l n ds lou K π D Lq (updo ρ o.dst v) (M ++ Lp)) : ObF w0 A ro P l n ds lou K (.join i :: π) D Lq ρ Lp := by
  simp only [ObF, hi]
  exact ⟨R, hR, h⟩
end
end Go.Sl
/- Literals that stay, and other short cuts. Plain library, no program in sight. -/
namespace Go.Sl
open Go Go.Proofs Go.RowKit

section
variable {w0 : World} {A : SProp} {L : List SProp} {ro : Option Nat} {P : Program} {Q : Exit → Act → World → Prop} {all : Array Oper} {os : List Oper} {n : Nat} {ρ : Nat → Value} {ds : List Nat}
variable {d : Option Tmp} {ty : TypeId} {pos : String} {af : Array Edge} {x y : Operand}
variable {α : Type} {enc : α → List Value} {sz : Nat} {xs : List α} {S : Option Addr}
/-- A truth value moved: both ways are walked. -/
theorem o_moveB {x : Operand} {b : Bool} (hx : ev n ρ x = .bool b) (h1 : b = true → G w0 A L (fun w => runL ro P all Q os (act n (updo ρ d (.bool true)) ds) w)) (h0 : b = false → G w0 A L (fun w => runL ro P all Q os (act n (updo ρ d (.bool false)) ds) w)) :
    G w0 A L (fun w => runL ro P all Q ({ dst := d, op := .move x, type := ty, pos := pos, after := af, guard := none } :: os) (act n ρ ds) w) :=
  o_move (by
    rw [hx]
    cases b with
    | true => exact h1 rfl
    | false => exact h0 rfl)
theorem o_slen {t : TypeId} {tys : Array TypeId} {s : ByteArray} (hx : ev n ρ x = .string s) (ht : tys = #[t]) (hu : P.underlying t = some .string)
    (h : G w0 A L (fun w => runL ro P all Q os (act n (updo ρ d (.int .i64 (s.size : Int))) ds) w)) :
    G w0 A L (fun w => runL ro P all Q ({ dst := d, op := .call { callee := .builtin .len, args := #[x], argTypes := tys }, type := ty, pos := pos, after := af, guard := none } :: os) (act n ρ ds) w) :=
  o_val rfl (by intro c e; cases e) (fun w _ _ => by
    subst ht
    simp only [execOp, resolve, List.map_toArray, List.map_cons, List.map_nil, hx]
    simp [invoke, builtin, Builtin.len_, run_underlying hu, goInt]) h
/-- A text's byte. -/
def byteN (s : ByteArray) (i : Nat) : Nat := if h : i < s.size then (s[i]'h).toNat else 0
theorem o_sindex {t : TypeId} {s : ByteArray} {kd : IntKind} {m : Int} {i : Nat} (hx : ev n ρ x = .string s) (hy : ev n ρ y = .int kd m) (hm : m = (i : Int)) (hi : i < s.size) (hu : P.underlying t = some .string)
    (h : G w0 A L (fun w => runL ro P all Q os (act n (updo ρ d (.int .u8 (byteN s i : Int))) ds) w)) :
    G w0 A L (fun w => runL ro P all Q ({ dst := d, op := .index t x y, type := ty, pos := pos, after := af, guard := none } :: os) (act n ρ ds) w) :=
  o_val rfl (by intro c e; cases e) (fun w _ _ => by
    subst hm
    simp only [execOp]
    refine run_v ?_
    rw [hx, hy, run_index_string w t s kd _ hu, dif_pos ⟨by omega, by omega⟩]
    simp [byteN, hi]) h
/-- A literal that stays as it is. -/
theorem o_litP {t e : TypeId} {len : Nat} {parts : Array (Nat × Operand)} (enc : α → List Value) (xs : List α) (cs : Array Value) (hr : ∀ w, (Instr.buildSlice t len (parts.map fun (i, x) => (i, ev n ρ x))).run P w = .ok (.slice (some ⟨w.heap.size, 0, none⟩) len len) (w.alloc (.cells cs e)))
    [en : EncLen enc sz] (hcs : cs.toList = xs.flatMap enc) (hm : xs.length ≤ maxLen)
    (h : ∀ b, G w0 A (psl enc sz (some ⟨b, 0, none⟩) xs :: L) (fun w => runL ro P all Q os (act n (updo ρ d (.slice (some ⟨b, 0, none⟩) len len)) ds) w)) :
    G w0 A L (fun w => runL ro P all Q ({ dst := d, op := .buildSlice t len parts, type := ty, pos := pos, after := af, guard := none } :: os) (act n ρ ds) w) :=
  o_slice_lit (e := e) cs hr fun b => G.lit_slice (enc := enc) (sz := sz) xs hcs hm (G.freeze_slice (h b))
/-- A floating literal: what is said of it. -/
theorem fl_lit {t e : TypeId} {len : Nat} {parts : Array (Nat × Operand)} (enc : α → List Value) (xs : List α) (cs : Array Value) (hr : ∀ w, (Instr.buildSlice t len (parts.map fun (i, x) => (i, ev n ρ x))).run P w = .ok (.slice (some ⟨w.heap.size, 0, none⟩) len len) (w.alloc (.cells cs e)))
    [en : EncLen enc sz] (hcs : cs.toList = xs.flatMap enc) (hm : xs.length ≤ maxLen) {Lq : List SProp} (X : List SProp) :
    OStep w0 A ro P all n ds ρ (Lq ++ X) { dst := d, op := .buildSlice t len parts, type := ty, pos := pos, after := af, guard := none }
      (fun v M => ∃ M', Ent (sl M) (sl (Lq ++ (X ++ M'))) ∧ ∃ b, v = .slice (some ⟨b, 0, none⟩) len len ∧ M' = [psl enc sz (some ⟨b, 0, none⟩) xs]) := fun Q h =>
  o_litP enc xs cs hr hcs hm fun b => g_end (h _ _ ⟨[psl enc sz (some ⟨b, 0, none⟩) xs], sl_perm (by
    rw [← List.append_assoc]
    exact List.perm_append_comm (l₁ := [psl enc sz (some ⟨b, 0, none⟩) xs]) (l₂ := Lq ++ X)), b, rfl, rfl⟩)
/-- An owned row, given up, with what is known of its room. -/
theorem G.frzc {e : TypeId} [en : EncLen enc sz] {c : Nat} {Φ : World → Prop} (h : xs.length ≤ c → G w0 A (psl enc sz S xs :: L) Φ) : G w0 A ([osl e enc sz S c xs] ++ L) Φ :=
  fun w hw hh => G.freeze_slice (e := e) (c := c) (h (osl_room (e := e) (hh.ent (Ent.swap _ _ _)))) w hw hh
end
/-- From less a state. -/
theorem Yields.pre {P : Program} {l : Nat} {vs : List Value} {M0 M M' Mx : List SProp} (h : Yields P l vs M M' Mx) (e : Ent (sl M0) (sl M)) : Yields P l vs M0 M' Mx := fun w F hh => h w F (hh.ent ((Ent.refl F).star e))
/-- Told otherwise. -/
theorem Iter.map {P : Program} {gf : FuncId} {lb : List Value} {α β : Type} {enc : α → List Value} {enc2 : β → List Value} (g : α → β) (he : ∀ x, enc x = enc2 (g x)) {xs : List α} {J0 : List SProp} (h : Iter P gf lb enc xs J0) : Iter P gf lb enc2 (xs.map g) J0 := fun l J Jx hJ hy => by
  refine (h l (fun pre => J (pre.map g)) (fun pre => Jx (pre.map g)) hJ fun pre x hp => ?_).mono fun v L' hR => ?_
  · have := hy (pre.map g) (g x) (by obtain ⟨t, ht⟩ := hp; exact ⟨t.map g, by rw [← ht]; simp⟩)
    rw [he]
    simpa using this
  · rcases hR with h1 | ⟨pre, ⟨t, ht⟩, h1⟩
    · exact .inl h1
    · exact .inr ⟨pre.map g, ⟨t.map g, by rw [← ht]; simp⟩, h1⟩
end Go.Sl
/- Many assertions at once; loops in which loops over functions stand. Plain library, no program in sight. -/
namespace Go.Sl
open Go Go.Proofs

def bigS {α : Type} (ys : List α) (f : α → SProp) : SProp := sl (ys.map f)
theorem bigS_perm {α : Type} {ys zs : List α} (h : ys.Perm zs) (f : α → SProp) : Ent (bigS ys f) (bigS zs f) := sl_perm (h.map f)
theorem bigS_congr {α : Type} {ys : List α} {f g : α → SProp} (h : ∀ y ∈ ys, f y = g y) : bigS ys f = bigS ys g := congrArg sl (List.map_congr_left h)
section
variable {α : Type} {w0 : World} {A : SProp} {L M : List SProp} {Φ : World → Prop}
theorem G.bopen {ys : List α} {f : α → SProp} (y : α) (zs : List α) (hp : ys.Perm (y :: zs)) [tk : Take1 L (bigS ys f) M] (h : G w0 A (f y :: bigS zs f :: M) Φ) : G w0 A L Φ :=
  G.perm tk.perm (G.ent (L := bigS ys f :: M) (L' := f y :: bigS zs f :: M) (((bigS_perm hp f).star (Ent.refl _)).trans (Ent.assoc (f y) (bigS zs f) (sl M))) h)
theorem G.bshut (ys : List α) (f : α → SProp) (y : α) (zs : List α) (hp : (y :: zs).Perm ys) [tk : Take L [f y, bigS zs f] M] (h : G w0 A (bigS ys f :: M) Φ) : G w0 A L Φ :=
  G.perm tk.perm (G.ent (L := f y :: bigS zs f :: M) (L' := bigS ys f :: M) ((Ent.assoc' (f y) (bigS zs f) (sl M)).trans ((bigS_perm hp f).star (Ent.refl _))) h)
theorem G.bnil (f : α → SProp) (h : G w0 A (bigS [] f :: L) Φ) : G w0 A L Φ := G.ent (L := L) (L' := bigS [] f :: L) (Ent.emp_left (sl L)) h
theorem G.beq {ys : List α} {f g : α → SProp} (e : bigS ys f = bigS ys g) [tk : Take1 L (bigS ys f) M] (h : G w0 A (bigS ys g :: M) Φ) : G w0 A L Φ := G.perm tk.perm (by rw [e]; exact h)
end
theorem mem_perm {α : Type} {ys : List α} {y : α} (h : y ∈ ys) : ∃ zs, ys.Perm (y :: zs) := by
  obtain ⟨s, t, rfl⟩ := List.append_of_mem h
  exact ⟨s ++ t, List.perm_middle⟩

section
variable {w0 : World} {F : SProp} {L : List SProp} {Fe : Fence} {m : Nat} {P : Program} {Q : Exit → Act → World → Prop} {a : Act}
/-- As 'Meets', whatever loops over functions came by. -/
def MeetsD {σ : Type} (w0 : World) (F : SProp) (n : Nat) (S : σ → List (Nat × Value)) (H : σ → List SProp) (ok : σ → Prop) (a : Act) (w : World) : Prop :=
  ∃ s ρ ds, ok s ∧ a = act n ρ ds ∧ (∀ p ∈ S s, ρ p.1 = p.2) ∧ Std w0 w ∧ holds (star (star (dfr ds) F) (sl (H s))) w
theorem MeetsD.elim {σ : Type} {n : Nat} {S : σ → List (Nat × Value)} {H : σ → List SProp} {ok : σ → Prop} {w : World} {Φ : Act → World → Prop} (h : MeetsD w0 F n S H ok a w)
    (k : ∀ s ρ ds, ok s → G w0 (star (dfr ds) F) (H s) (fun w => Φ (act n (updl ρ (S s)) ds) w)) : Φ a w := by
  obtain ⟨s, ρ, ds, ho, rfl, hs, hw, hh⟩ := h
  have := k s ρ ds ho w hw hh
  rwa [updl_self hs] at this
theorem g_meetsD {σ : Type} {n : Nat} {ρ : Nat → Value} {ds : List Nat} {S : σ → List (Nat × Value)} {H : σ → List SProp} {ok : σ → Prop} {M : List SProp} (s : σ) (ho : ok s) (hs : ∀ p ∈ S s, ρ p.1 = p.2) [t : Take L (H s) M] :
    G w0 (star (dfr ds) F) L (fun w => MeetsD w0 F n S H ok (act n ρ ds) w) := fun _ hw hh =>
  ⟨s, ρ, ds, ho, rfl, hs, hw, hh.ent ((Ent.refl _).star ((sl_perm t.perm).trans ((sl_append_to _ _).trans (Ent.left _ _))))⟩
theorem g_loopD {σ : Type} {n : Nat} {ρ : Nat → Value} {ds : List Nat} {c : Code} (S : σ → List (Nat × Value)) (H : σ → List SProp) (μ : σ → Nat) (s0 : σ) {M : List SProp}
    (h0 : ∀ p ∈ S s0, ρ p.1 = p.2) [t : Take L (H s0) M]
    (k : ∀ s ρ' ds', G w0 (star (dfr ds') F) (H s) (fun w => c.wpIn Fe m P (Exit.then (MeetsD w0 F n S H (fun s' => μ s' < μ s)) Q) (act n (updl ρ' (S s)) ds') w)) :
    G w0 (star (dfr ds) F) L (fun w => (Code.loop c).wpIn Fe m P Q (act n ρ ds) w) := by
  intro w hw hh
  refine wpIn_loop_by (fun s a w => ∃ ρ ds, a = act n ρ ds ∧ (∀ p ∈ S s, ρ p.1 = p.2) ∧ Std w0 w ∧ holds (star (star (dfr ds) F) (sl (H s))) w) μ s0
    ⟨ρ, ds, rfl, h0, hw, hh.ent ((Ent.refl _).star ((sl_perm t.perm).trans ((sl_append_to _ _).trans (Ent.left _ _))))⟩ ?_
  rintro s a w ⟨ρ, ds, rfl, hs, hw, hh⟩
  have := k s ρ ds w hw hh
  rw [updl_self hs] at this
  refine wpIn_mono this ?_
  intro e a' w' hq
  cases e with
  | normal =>
    obtain ⟨s', ρ', ds', ho, ha, hs', hw', hh'⟩ := hq
    exact ⟨s', ⟨ρ', ds', ha, hs', hw', hh'⟩, ho⟩
  | _ => exact hq
theorem g_cutD {σ : Type} {n : Nat} {ρ : Nat → Value} {ds : List Nat} {x y : Code} (S : σ → List (Nat × Value)) (H : σ → List SProp) (ok : σ → Prop)
    (h : G w0 (star (dfr ds) F) L (fun w => x.wpIn Fe m P (Exit.then (MeetsD w0 F n S H ok) Q) (act n ρ ds) w))
    (k : ∀ s ρ' ds', ok s → G w0 (star (dfr ds') F) (H s) (fun w => y.wpIn Fe m P Q (act n (updl ρ' (S s)) ds') w)) : G w0 (star (dfr ds) F) L (fun w => (Code.seq x y).wpIn Fe m P Q (act n ρ ds) w) := by
  refine h.mono fun _ hw => wpIn_seq (wpIn_mono hw ?_)
  intro e a w' hq
  cases e with
  | normal => exact MeetsD.elim (Φ := fun a w => y.wpIn Fe m P Q a w) hq k
  | _ => exact hq
theorem g_cutkD {σ : Type} {n : Nat} {ρ : Nat → Value} {ds : List Nat} {x : Code} {K : Act → World → Prop} (S : σ → List (Nat × Value)) (H : σ → List SProp) (ok : σ → Prop)
    (h : G w0 (star (dfr ds) F) L (fun w => x.wpIn Fe m P (Exit.then (MeetsD w0 F n S H ok) Q) (act n ρ ds) w))
    (k : ∀ s ρ' ds', ok s → G w0 (star (dfr ds') F) (H s) (fun w => K (act n (updl ρ' (S s)) ds') w)) : G w0 (star (dfr ds) F) L (fun w => x.wpIn Fe m P (Exit.then K Q) (act n ρ ds) w) := by
  refine h.mono fun _ hw => wpIn_mono hw ?_
  intro e a w' hq
  cases e with
  | normal => exact MeetsD.elim (Φ := K) hq k
  | _ => exact hq
/-- A cut behind a block. -/
theorem g_cutbD {σ : Type} {n : Nat} {ρ : Nat → Value} {ds : List Nat} {x : Code} {id : Nat} {K : Act → World → Prop} (T : σ → List (Nat × Value)) (H : σ → List SProp) (ok : σ → Prop)
    (h : G w0 (star (dfr ds) F) L (fun w => x.wpIn Fe m P (Exit.inBlock id (Exit.then (MeetsD w0 F n T H ok) Q)) (act n ρ ds) w))
    (k : ∀ s ρ' ds', ok s → G w0 (star (dfr ds') F) (H s) (fun w => K (act n (updl ρ' (T s)) ds') w)) : G w0 (star (dfr ds) F) L (fun w => x.wpIn Fe m P (Exit.inBlock id (Exit.then K Q)) (act n ρ ds) w) := by
  refine h.mono fun _ hw => wpIn_mono hw ?_
  intro e a w' hq
  cases e with
  | normal => exact MeetsD.elim (Φ := K) hq k
  | exit j =>
    simp only [Exit.inBlock] at hq ⊢
    split at hq
    · rename_i hj; rw [if_pos hj]; exact MeetsD.elim (Φ := K) hq k
    · rename_i hj; rw [if_neg hj]; exact hq
  | _ => exact hq
end
end Go.Sl
/- A continuation hidden: from a point on, only what its ends ask is kept. Plain library, no program in sight. -/
namespace Go.Sl
open Go Go.Proofs

section
variable {w0 : World} {A : SProp} {L : List SProp}
/-- From here on the continuation is a name; what is known of it stands in a hypothesis. -/
theorem g_hide {x : Code} {fe : Fence} {m : Nat} {P : Program} {a : Act} {Q : Exit → Act → World → Prop} (h : ∀ Q' : Exit → Act → World → Prop, (∀ e a w, Q e a w → Q' e a w) → G w0 A L (fun w => x.wpIn fe m P Q' a w)) : G w0 A L (fun w => x.wpIn fe m P Q a w) := h Q fun _ _ _ h => h
theorem g_hideR {ro : Option Nat} {P : Program} {all : Array Oper} {os : List Oper} {a : Act} {Q : Exit → Act → World → Prop} (h : ∀ Q' : Exit → Act → World → Prop, (∀ e a w, Q e a w → Q' e a w) → G w0 A L (fun w => runL ro P all Q' os a w)) : G w0 A L (fun w => runL ro P all Q os a w) := h Q fun _ _ _ h => h
/-- Of the frame only these are kept. (Each move doubles the frame as a tree; what looks through the goal, 'rw', 'generalize', 'obtain', then runs for ever.) -/
theorem g_keep {x : Code} {fe : Fence} {m : Nat} {P : Program} {n : Nat} {ρ : Nat → Value} {ds : List Nat} {Q : Exit → Act → World → Prop} (S : List (Nat × Value)) (hs : Sat ρ S) (h : ∀ ρ', G w0 A L (fun w => x.wpIn fe m P Q (act n (updl ρ' S) ds) w)) : G w0 A L (fun w => x.wpIn fe m P Q (act n ρ ds) w) := by
  have := h ρ
  rwa [updl_self hs.mem] at this
theorem G.imp {Φ Ψ : World → Prop} (hi : ∀ w, Φ w → Ψ w) (h : G w0 A L Φ) : G w0 A L Ψ := h.mono hi
end
end Go.Sl
/- Elements put into an index, and taken out of it: the walks. -/
namespace Go.Proofs.Ytdpbjoldgiikkaa
open Go Go.Sl
attribute [local irreducible] Exit.then Exit.inBlock Code.wpIn roundPost bodyPostM runL Ret Meets MeetsD Begin

def cellI (f : ElemD → SymD) (ys : List ElemD) (p : PgSE) : SProp := SetAES (p.v.getD 0) (keyD f ys p.k)
def IdxP (m : Nat) (f : ElemD → SymD) (ys : List ElemD) : SProp := ex fun zs : List PgSE => sl [pu (IdxI zs f ys), MapASE m zs, bigS zs (cellI f ys)]
section
variable {w0 : World} {A : SProp} {L M : List SProp} {Φ : World → Prop}
theorem openI (m : Nat) (f : ElemD → SymD) (ys : List ElemD) [tk : Take1 L (IdxP m f ys) M] (h : ∀ zs, IdxI zs f ys → G w0 A (MapASE m zs :: bigS zs (cellI f ys) :: M) Φ) : G w0 A L Φ :=
  G.perm tk.perm (G.ex fun zs => G.open_sl (G.pu fun hi => h zs hi))
theorem shutI (m : Nat) (f : ElemD → SymD) (ys : List ElemD) (zs : List PgSE) (hi : IdxI zs f ys) [tk : Take L [MapASE m zs, bigS zs (cellI f ys)] M] (h : G w0 A (IdxP m f ys :: M) Φ) : G w0 A L Φ :=
  G.perm tk.perm (G.pu_in hi (G.ent (L := pu (IdxI zs f ys) :: MapASE m zs :: bigS zs (cellI f ys) :: M) (L' := IdxP m f ys :: M)
    ((sl_append_to [pu (IdxI zs f ys), MapASE m zs, bigS zs (cellI f ys)] M).trans (Ent.star (show Ent _ (IdxP m f ys) from fun _ _ x => ⟨zs, x⟩) (Ent.refl _))) h))
theorem newI (m : Nat) (f : ElemD → SymD) [tk : Take1 L (MapASE m []) M] (h : G w0 A (IdxP m f [] :: M) Φ) : G w0 A L Φ :=
  G.perm tk.perm (G.bnil (cellI f []) (shutI m f [] [] (IdxI.nil f) (tk := ⟨List.Perm.swap _ _ _⟩) h))
end
theorem DropCMSE_spec (m : Nat) (zs : List PgSE) (k : SymD) (hs : Srt PgSE.cmp zs) (hl : zs.length < 1000000000) : Ctr Try.prog 83 [.pointer (some ⟨m, 0, none⟩), k.val] [MapASE m zs]
    (fun u M => M = [MapASE m (delC PgSE.cmp zs ⟨k, none⟩)]) := (DropMSE_spec m zs k hs hl).mono fun u M ⟨i, there, h1, h2, h3⟩ => by
  rw [h2, delC_of PgSE.lin hs h3]; rfl
set_option maxHeartbeats 1000000 in
theorem into_spec (m : Nat) (f : ElemD → SymD) (ys : List ElemD) (e : ElemD) (hs : Srt ElemD.cmp ys) (hl : ys.length ≤ 100000) (hn : hasC ElemD.cmp ys e = false) : Ctr Try.prog 71 [.pointer (some ⟨m, 0, none⟩), (f e).val, e.val] [IdxP m f ys]
    (fun _ M => M = [IdxP m f (insC ElemD.cmp ys e)]) := by
  refine spec_of Try.func71 rfl Try.ntmps71 rfl fun w0 F => ?_
  -- hide
  -- ponder/mem.into
  have hkl := keyD_len f ys (f e)
  have hks := keyD_srt (f := f) hs (f e)
  refine openI m f ys fun zs hw => ?_
  have hzl := hw.len
  repeat (first | refine g_endt ?_ | refine g_end ?_ | refine g_then ?_ | refine g_in_normal ?_ | refine g_then_ret ?_ | refine g_in_ret ?_ | refine g_then_exit ?_ | refine g_in_exit rfl ?_ | refine g_in_exit_ne (by decide) ?_ | refine g_seq ?_ | refine g_region ?_ | refine g_block ?_ | refine g_ret ?_ | refine g_return_n ?_ | refine g_exit ?_ | refine g_skip ?_)
  refine g_hideR fun Q_ hQ_ => ?_
  refine o_boxc (f e).cells.toArray rfl rfl fun q => ?_
  refine o_boxc e.val.cells rfl rfl fun q2 => ?_
  refine g_end (G.imp (hQ_ .normal _) ?_)
  clear hQ_ Q_
  try refine g_then ?_
  have hcell : ∀ us : List PgSE, (∀ p ∈ us, p.k ≠ f e) → bigS us (cellI f ys) = bigS us (cellI f (insC ElemD.cmp ys e)) := fun us hne => bigS_congr fun p hp => by unfold cellI; rw [keyD_ins_ne hs (hne p hp)]
  cases hg : getM PgSE.cmp zs ⟨f e, none⟩ with
  | some p =>
    obtain ⟨b, us, rfl, hperm, hne, _⟩ := hw.get hg
    have hh : hasC PgSE.cmp zs ⟨f e, none⟩ = true := by rw [← getM_isSome, hg]; rfl
    repeat (first | refine g_endt ?_ | refine g_end ?_ | refine g_then ?_ | refine g_in_normal ?_ | refine g_then_ret ?_ | refine g_in_ret ?_ | refine g_then_exit ?_ | refine g_in_exit rfl ?_ | refine g_in_exit_ne (by decide) ?_ | refine g_seq ?_ | refine g_region ?_ | refine g_block ?_ | refine g_ret ?_ | refine g_return_n ?_ | refine g_exit ?_ | refine g_skip ?_)
    refine g_hideR fun Q_ hQ_ => ?_
    refine o_move ?_
    refine o_loadN (v := (f e).val) rfl rfl rfl ?_
    refine o_call (GetNMSE_spec m zs (f e) hw.srt (by omega) hg) rfl rfl ?_
    rintro _ _ ⟨rfl, rfl⟩
    refine o_move ?_
    refine o_extract rfl rfl ?_
    refine o_extract rfl rfl ?_
    refine o_assign ?_
    refine o_assign ?_
    refine g_end (G.imp (hQ_ .normal _) ?_)
    clear hQ_ Q_
    try refine g_then ?_
    repeat (first | refine g_endt ?_ | refine g_end ?_ | refine g_then ?_ | refine g_in_normal ?_ | refine g_then_ret ?_ | refine g_in_ret ?_ | refine g_then_exit ?_ | refine g_in_exit rfl ?_ | refine g_in_exit_ne (by decide) ?_ | refine g_seq ?_ | refine g_region ?_ | refine g_block ?_ | refine g_ret ?_ | refine g_return_n ?_ | refine g_exit ?_ | refine g_skip ?_)
    refine g_hideR fun Q_ hQ_ => ?_
    refine o_move ?_
    refine o_not rfl ?_
    refine g_end (G.imp (hQ_ .normal _) ?_)
    clear hQ_ Q_
    try refine g_then ?_
    first | refine g_seq (g_cond_f rfl (by first | rfl | (simp; done) | (simp; omega) | (simp; assumption)) ?_) | refine g_cond_f rfl (by first | rfl | (simp; done) | (simp; omega) | (simp; assumption)) ?_
    refine G.bopen (f := cellI f ys) ⟨f e, some b⟩ us hperm ?_
    change G _ _ (SetAES b (keyD f ys (f e)) :: _) _
    repeat (first | refine g_endt ?_ | refine g_end ?_ | refine g_then ?_ | refine g_in_normal ?_ | refine g_then_ret ?_ | refine g_in_ret ?_ | refine g_then_exit ?_ | refine g_in_exit rfl ?_ | refine g_in_exit_ne (by decide) ?_ | refine g_seq ?_ | refine g_region ?_ | refine g_block ?_ | refine g_ret ?_ | refine g_return_n ?_ | refine g_exit ?_ | refine g_skip ?_)
    refine g_hideR fun Q_ hQ_ => ?_
    refine o_move ?_
    refine o_loadN (v := e.val) rfl rfl rfl ?_
    refine o_call (PutCES_spec b (keyD f ys (f e)) e hks (by omega)) rfl rfl ?_
    rintro _ _ ⟨rfl, rfl⟩
    refine g_end (G.imp (hQ_ .normal _) ?_)
    clear hQ_ Q_
    try refine g_then ?_
    rw [← keyD_ins hs hn, hcell us hne]
    refine G.bshut zs (cellI f (insC ElemD.cmp ys e)) ⟨f e, some b⟩ us hperm.symm (tk := (inferInstance : Take _ [SetAES b (keyD f (insC ElemD.cmp ys e) (f e)), bigS us (cellI f (insC ElemD.cmp ys e))] _)) ?_
    refine shutI m f (insC ElemD.cmp ys e) zs (hw.old hh) ?_
    repeat (first | refine g_endt ?_ | refine g_end ?_ | refine g_then ?_ | refine g_in_normal ?_ | refine g_then_ret ?_ | refine g_in_ret ?_ | refine g_then_exit ?_ | refine g_in_exit rfl ?_ | refine g_in_exit_ne (by decide) ?_ | refine g_seq ?_ | refine g_region ?_ | refine g_block ?_ | refine g_ret ?_ | refine g_return_n ?_ | refine g_exit ?_ | refine g_skip ?_)
    exact ret0 (K := [IdxP m f (insC ElemD.cmp ys e)]) rfl rfl
  | none =>
    have hh : hasC PgSE.cmp zs ⟨f e, none⟩ = false := by rw [← getM_isSome, hg]; rfl
    have hv0 : keyD f ys (f e) = [] := keyD_none fun x hx r => by
      have := (hw.has (f e)).2 ⟨x, hx, r⟩
      rw [hh] at this; cases this
    have hne : ∀ q ∈ zs, q.k ≠ f e := fun q hq r => by
      have := List.any_eq_false.1 (show zs.any (fun y => decide (PgSE.cmp y ⟨f e, none⟩ = 0)) = false from hh) q hq
      exact this (decide_eq_true (PgSE.cmp_iff.2 r))
    repeat (first | refine g_endt ?_ | refine g_end ?_ | refine g_then ?_ | refine g_in_normal ?_ | refine g_then_ret ?_ | refine g_in_ret ?_ | refine g_then_exit ?_ | refine g_in_exit rfl ?_ | refine g_in_exit_ne (by decide) ?_ | refine g_seq ?_ | refine g_region ?_ | refine g_block ?_ | refine g_ret ?_ | refine g_return_n ?_ | refine g_exit ?_ | refine g_skip ?_)
    refine g_hideR fun Q_ hQ_ => ?_
    refine o_move ?_
    refine o_loadN (v := (f e).val) rfl rfl rfl ?_
    refine o_call (GetNMSE_spec m zs (f e) hw.srt (by omega) hg) rfl rfl ?_
    rintro _ _ ⟨rfl, rfl⟩
    refine o_move ?_
    refine o_extract rfl rfl ?_
    refine o_extract rfl rfl ?_
    refine o_assign ?_
    refine o_assign ?_
    refine g_end (G.imp (hQ_ .normal _) ?_)
    clear hQ_ Q_
    try refine g_then ?_
    repeat (first | refine g_endt ?_ | refine g_end ?_ | refine g_then ?_ | refine g_in_normal ?_ | refine g_then_ret ?_ | refine g_in_ret ?_ | refine g_then_exit ?_ | refine g_in_exit rfl ?_ | refine g_in_exit_ne (by decide) ?_ | refine g_seq ?_ | refine g_region ?_ | refine g_block ?_ | refine g_ret ?_ | refine g_return_n ?_ | refine g_exit ?_ | refine g_skip ?_)
    refine g_hideR fun Q_ hQ_ => ?_
    refine o_move ?_
    refine o_not rfl ?_
    refine g_end (G.imp (hQ_ .normal _) ?_)
    clear hQ_ Q_
    try refine g_then ?_
    first | refine g_seq (g_cond_t rfl (by first | rfl | (simp; done) | (simp; omega) | (simp; assumption)) ?_) | refine g_cond_t rfl (by first | rfl | (simp; done) | (simp; omega) | (simp; assumption)) ?_
    repeat (first | refine g_endt ?_ | refine g_end ?_ | refine g_then ?_ | refine g_in_normal ?_ | refine g_then_ret ?_ | refine g_in_ret ?_ | refine g_then_exit ?_ | refine g_in_exit rfl ?_ | refine g_in_exit_ne (by decide) ?_ | refine g_seq ?_ | refine g_region ?_ | refine g_block ?_ | refine g_ret ?_ | refine g_return_n ?_ | refine g_exit ?_ | refine g_skip ?_)
    refine g_hideR fun Q_ hQ_ => ?_
    refine o_call (NewES_spec) rfl rfl ?_
    rintro _ _ ⟨b, rfl, rfl⟩
    refine o_assign ?_
    refine g_end (G.imp (hQ_ .normal _) ?_)
    clear hQ_ Q_
    try refine g_then ?_
    repeat (first | refine g_endt ?_ | refine g_end ?_ | refine g_then ?_ | refine g_in_normal ?_ | refine g_then_ret ?_ | refine g_in_ret ?_ | refine g_then_exit ?_ | refine g_in_exit rfl ?_ | refine g_in_exit_ne (by decide) ?_ | refine g_seq ?_ | refine g_region ?_ | refine g_block ?_ | refine g_ret ?_ | refine g_return_n ?_ | refine g_exit ?_ | refine g_skip ?_)
    refine g_hideR fun Q_ hQ_ => ?_
    refine o_move ?_
    refine o_loadN (v := (f e).val) rfl rfl rfl ?_
    refine o_move ?_
    refine o_call (PutNMSE_spec m zs (f e) (some b) hw.srt (by omega) hh) rfl rfl ?_
    rintro _ _ ⟨rfl, rfl⟩
    refine g_end (G.imp (hQ_ .normal _) ?_)
    clear hQ_ Q_
    try refine g_then ?_
    repeat (first | refine g_endt ?_ | refine g_end ?_ | refine g_then ?_ | refine g_in_normal ?_ | refine g_then_ret ?_ | refine g_in_ret ?_ | refine g_then_exit ?_ | refine g_in_exit rfl ?_ | refine g_in_exit_ne (by decide) ?_ | refine g_seq ?_ | refine g_region ?_ | refine g_block ?_ | refine g_ret ?_ | refine g_return_n ?_ | refine g_exit ?_ | refine g_skip ?_)
    refine g_hideR fun Q_ hQ_ => ?_
    refine o_move ?_
    refine o_loadN (v := e.val) rfl rfl rfl ?_
    refine o_call (PutCES_spec b [] e Srt.nil (by simp)) rfl rfl ?_
    rintro _ _ ⟨rfl, rfl⟩
    refine g_end (G.imp (hQ_ .normal _) ?_)
    clear hQ_ Q_
    try refine g_then ?_
    rw [show insC ElemD.cmp [] e = keyD f (insC ElemD.cmp ys e) (f e) by rw [keyD_ins hs hn, hv0], hcell zs hne]
    refine G.bshut (insC PgSE.cmp zs ⟨f e, some b⟩) (cellI f (insC ElemD.cmp ys e)) ⟨f e, some b⟩ zs (insC_perm hh) (tk := (inferInstance : Take _ [SetAES b (keyD f (insC ElemD.cmp ys e) (f e)), bigS zs (cellI f (insC ElemD.cmp ys e))] _)) ?_
    refine shutI m f (insC ElemD.cmp ys e) (insC PgSE.cmp zs ⟨f e, some b⟩) (hw.new hn b) ?_
    repeat (first | refine g_endt ?_ | refine g_end ?_ | refine g_then ?_ | refine g_in_normal ?_ | refine g_then_ret ?_ | refine g_in_ret ?_ | refine g_then_exit ?_ | refine g_in_exit rfl ?_ | refine g_in_exit_ne (by decide) ?_ | refine g_seq ?_ | refine g_region ?_ | refine g_block ?_ | refine g_ret ?_ | refine g_return_n ?_ | refine g_exit ?_ | refine g_skip ?_)
    exact ret0 (K := [IdxP m f (insC ElemD.cmp ys e)]) rfl rfl
set_option maxHeartbeats 1000000 in
theorem outOf_spec (m : Nat) (f : ElemD → SymD) (hf : Resp f) (ys : List ElemD) (e : ElemD) (hs : Srt ElemD.cmp ys) (hl : ys.length ≤ 100000) (hin : ∃ x ∈ ys, f x = f e) : Ctr Try.prog 67 [.pointer (some ⟨m, 0, none⟩), (f e).val, e.val] [IdxP m f ys]
    (fun _ M => M = [IdxP m f (delC ElemD.cmp ys e)]) := by
  refine spec_of Try.func67 rfl Try.ntmps67 rfl fun w0 F => ?_
  -- hide
  -- ponder/mem.outOf
  have hkl := keyD_len f ys (f e)
  have hks := keyD_srt (f := f) hs (f e)
  refine openI m f ys fun zs hw => ?_
  have hzl := hw.len
  repeat (first | refine g_endt ?_ | refine g_end ?_ | refine g_then ?_ | refine g_in_normal ?_ | refine g_then_ret ?_ | refine g_in_ret ?_ | refine g_then_exit ?_ | refine g_in_exit rfl ?_ | refine g_in_exit_ne (by decide) ?_ | refine g_seq ?_ | refine g_region ?_ | refine g_block ?_ | refine g_ret ?_ | refine g_return_n ?_ | refine g_exit ?_ | refine g_skip ?_)
  refine g_hideR fun Q_ hQ_ => ?_
  refine o_boxc (f e).cells.toArray rfl rfl fun q => ?_
  refine o_boxc e.val.cells rfl rfl fun q2 => ?_
  refine g_end (G.imp (hQ_ .normal _) ?_)
  clear hQ_ Q_
  try refine g_then ?_
  have hcell : ∀ us : List PgSE, (∀ p ∈ us, p.k ≠ f e) → bigS us (cellI f ys) = bigS us (cellI f (delC ElemD.cmp ys e)) := fun us hne => bigS_congr fun p hp => by unfold cellI; rw [keyD_del_ne hf ys (hne p hp)]
  obtain ⟨p, hg⟩ : ∃ p, getM PgSE.cmp zs ⟨f e, none⟩ = some p := by
    have := (hw.has (f e)).2 hin
    rw [← getM_isSome] at this
    exact Option.isSome_iff_exists.1 this
  obtain ⟨b, us, rfl, hperm, hne, hdel⟩ := hw.get hg
  repeat (first | refine g_endt ?_ | refine g_end ?_ | refine g_then ?_ | refine g_in_normal ?_ | refine g_then_ret ?_ | refine g_in_ret ?_ | refine g_then_exit ?_ | refine g_in_exit rfl ?_ | refine g_in_exit_ne (by decide) ?_ | refine g_seq ?_ | refine g_region ?_ | refine g_block ?_ | refine g_ret ?_ | refine g_return_n ?_ | refine g_exit ?_ | refine g_skip ?_)
  refine g_hideR fun Q_ hQ_ => ?_
  refine o_move ?_
  refine o_loadN (v := (f e).val) rfl rfl rfl ?_
  refine o_call (GetNMSE_spec m zs (f e) hw.srt (by omega) hg) rfl rfl ?_
  rintro _ _ ⟨rfl, rfl⟩
  refine o_move ?_
  refine o_extract rfl rfl ?_
  refine o_extract rfl rfl ?_
  refine o_assign ?_
  refine o_assign ?_
  refine g_end (G.imp (hQ_ .normal _) ?_)
  clear hQ_ Q_
  try refine g_then ?_
  repeat (first | refine g_endt ?_ | refine g_end ?_ | refine g_then ?_ | refine g_in_normal ?_ | refine g_then_ret ?_ | refine g_in_ret ?_ | refine g_then_exit ?_ | refine g_in_exit rfl ?_ | refine g_in_exit_ne (by decide) ?_ | refine g_seq ?_ | refine g_region ?_ | refine g_block ?_ | refine g_ret ?_ | refine g_return_n ?_ | refine g_exit ?_ | refine g_skip ?_)
  refine g_hideR fun Q_ hQ_ => ?_
  refine o_move ?_
  refine o_not rfl ?_
  refine g_end (G.imp (hQ_ .normal _) ?_)
  clear hQ_ Q_
  try refine g_then ?_
  first | refine g_seq (g_cond_f rfl (by first | rfl | (simp; done) | (simp; omega) | (simp; assumption)) ?_) | refine g_cond_f rfl (by first | rfl | (simp; done) | (simp; omega) | (simp; assumption)) ?_
  refine G.bopen (f := cellI f ys) ⟨f e, some b⟩ us hperm ?_
  change G _ _ (SetAES b (keyD f ys (f e)) :: _) _
  repeat (first | refine g_endt ?_ | refine g_end ?_ | refine g_then ?_ | refine g_in_normal ?_ | refine g_then_ret ?_ | refine g_in_ret ?_ | refine g_then_exit ?_ | refine g_in_exit rfl ?_ | refine g_in_exit_ne (by decide) ?_ | refine g_seq ?_ | refine g_region ?_ | refine g_block ?_ | refine g_ret ?_ | refine g_return_n ?_ | refine g_exit ?_ | refine g_skip ?_)
  refine g_hideR fun Q_ hQ_ => ?_
  refine o_move ?_
  refine o_loadN (v := e.val) rfl rfl rfl ?_
  refine o_call (DropCES_spec b (keyD f ys (f e)) e hks (by omega)) rfl rfl ?_
  rintro _ _ ⟨rfl, rfl⟩
  refine g_end (G.imp (hQ_ .normal _) ?_)
  clear hQ_ Q_
  try refine g_then ?_
  rw [← keyD_del f ys e (f e), hcell us hne]
  repeat (first | refine g_endt ?_ | refine g_end ?_ | refine g_then ?_ | refine g_in_normal ?_ | refine g_then_ret ?_ | refine g_in_ret ?_ | refine g_then_exit ?_ | refine g_in_exit rfl ?_ | refine g_in_exit_ne (by decide) ?_ | refine g_seq ?_ | refine g_region ?_ | refine g_block ?_ | refine g_ret ?_ | refine g_return_n ?_ | refine g_exit ?_ | refine g_skip ?_)
  refine g_hideR fun Q_ hQ_ => ?_
  refine o_move ?_
  refine o_call (LenES_spec b (keyD f (delC ElemD.cmp ys e) (f e))) rfl rfl ?_
  rintro _ _ ⟨rfl, rfl⟩
  refine o_eql rfl rfl ?_
  refine g_end (G.imp (hQ_ .normal _) ?_)
  clear hQ_ Q_
  try refine g_then ?_
  by_cases h0 : keyD f (delC ElemD.cmp ys e) (f e) = []
  · first | refine g_seq (g_cond_t rfl (by rw [h0]; rfl) ?_) | refine g_cond_t rfl (by rw [h0]; rfl) ?_
    repeat (first | refine g_endt ?_ | refine g_end ?_ | refine g_then ?_ | refine g_in_normal ?_ | refine g_then_ret ?_ | refine g_in_ret ?_ | refine g_then_exit ?_ | refine g_in_exit rfl ?_ | refine g_in_exit_ne (by decide) ?_ | refine g_seq ?_ | refine g_region ?_ | refine g_block ?_ | refine g_ret ?_ | refine g_return_n ?_ | refine g_exit ?_ | refine g_skip ?_)
    refine g_hideR fun Q_ hQ_ => ?_
    refine o_move ?_
    refine o_loadN (v := (f e).val) rfl rfl rfl ?_
    refine o_call (DropCMSE_spec m zs (f e) hw.srt (by omega)) rfl rfl ?_
    rintro _ _ rfl
    refine g_end (G.imp (hQ_ .normal _) ?_)
    clear hQ_ Q_
    try refine g_then ?_
    have hnx := hw.gone hf (e := e) h0
    rw [hdel] at hnx ⊢
    refine shutI m f (delC ElemD.cmp ys e) us hnx ?_
    repeat (first | refine g_endt ?_ | refine g_end ?_ | refine g_then ?_ | refine g_in_normal ?_ | refine g_then_ret ?_ | refine g_in_ret ?_ | refine g_then_exit ?_ | refine g_in_exit rfl ?_ | refine g_in_exit_ne (by decide) ?_ | refine g_seq ?_ | refine g_region ?_ | refine g_block ?_ | refine g_ret ?_ | refine g_return_n ?_ | refine g_exit ?_ | refine g_skip ?_)
    exact ret0 (K := [IdxP m f (delC ElemD.cmp ys e)]) rfl rfl
  · first | refine g_seq (g_cond_f rfl (by simpa using h0) ?_) | refine g_cond_f rfl (by simpa using h0) ?_
    refine G.bshut zs (cellI f (delC ElemD.cmp ys e)) ⟨f e, some b⟩ us hperm.symm (tk := (inferInstance : Take _ [SetAES b (keyD f (delC ElemD.cmp ys e) (f e)), bigS us (cellI f (delC ElemD.cmp ys e))] _)) ?_
    refine shutI m f (delC ElemD.cmp ys e) zs (hw.keep hf h0) ?_
    repeat (first | refine g_endt ?_ | refine g_end ?_ | refine g_then ?_ | refine g_in_normal ?_ | refine g_then_ret ?_ | refine g_in_ret ?_ | refine g_then_exit ?_ | refine g_in_exit rfl ?_ | refine g_in_exit_ne (by decide) ?_ | refine g_seq ?_ | refine g_region ?_ | refine g_block ?_ | refine g_ret ?_ | refine g_return_n ?_ | refine g_exit ?_ | refine g_skip ?_)
    exact ret0 (K := [IdxP m f (delC ElemD.cmp ys e)]) rfl rfl
end Go.Proofs.Ytdpbjoldgiikkaa
/- Numbers as keys. -/
namespace Go.Proofs.Ytdpbjoldgiikkaa
open Go Go.Sl
attribute [local irreducible] Code.wpIn roundPost bodyPostM runL Ret Meets Begin

structure NumD where
  n : Int
def NumD.val (a : NumD) : Value := .int .i64 a.n
def NumD.cmp (a b : NumD) : Int := cmpI a.n b.n
def NumD.zero : NumD := ⟨0⟩
theorem linNum : LinCmp NumD.cmp := linI.pull NumD.n
theorem NumD.cmp_iff {a b : NumD} : a.cmp b = 0 ↔ a = b := ⟨fun h => by cases a; cases b; exact congrArg NumD.mk (cmpI_zero h), fun h => h ▸ linNum.refl a⟩
end Go.Proofs.Ytdpbjoldgiikkaa
/- Timetags as keys. -/
namespace Go.Proofs.Ytdpbjoldgiikkaa
open Go Go.Sl
attribute [local irreducible] Code.wpIn roundPost bodyPostM runL Ret Meets Begin

theorem CompareTag_spec (a b : NumD) : Ctr Try.prog 120 [a.val, b.val] [] (fun v M => v = .int .i64 (a.cmp b) ∧ M = []) := by
  refine spec_of Try.func120 rfl Try.ntmps120 rfl fun w0 F => ?_
  -- (ponder/mem.tag).Compare
  repeat (first | refine g_endt ?_ | refine g_end ?_ | refine g_then ?_ | refine g_in_normal ?_ | refine g_then_ret ?_ | refine g_in_ret ?_ | refine g_then_exit ?_ | refine g_in_exit rfl ?_ | refine g_in_exit_ne (by decide) ?_ | refine g_seq ?_ | refine g_region ?_ | refine g_block ?_ | refine g_ret ?_ | refine g_return_n ?_ | refine g_exit ?_ | refine g_skip ?_)
  refine o_assign ?_
  first | refine g_endt ?_ | refine g_end ?_
  repeat (first | refine g_endt ?_ | refine g_end ?_ | refine g_then ?_ | refine g_in_normal ?_ | refine g_then_ret ?_ | refine g_in_ret ?_ | refine g_then_exit ?_ | refine g_in_exit rfl ?_ | refine g_in_exit_ne (by decide) ?_ | refine g_seq ?_ | refine g_region ?_ | refine g_block ?_ | refine g_ret ?_ | refine g_return_n ?_ | refine g_exit ?_ | refine g_skip ?_)
  refine o_move ?_
  refine o_move ?_
  refine o_lss (k := .i64) (a := a.n) (b := b.n) rfl rfl ?_
  refine o_assign ?_
  first | refine g_endt ?_ | refine g_end ?_
  by_cases h1 : a.n < b.n
  · first | refine g_seq (g_cond_t rfl (by simpa using h1) ?_) | refine g_cond_t rfl (by simpa using h1) ?_
    repeat (first | refine g_endt ?_ | refine g_end ?_ | refine g_then ?_ | refine g_in_normal ?_ | refine g_then_ret ?_ | refine g_in_ret ?_ | refine g_then_exit ?_ | refine g_in_exit rfl ?_ | refine g_in_exit_ne (by decide) ?_ | refine g_seq ?_ | refine g_region ?_ | refine g_block ?_ | refine g_ret ?_ | refine g_return_n ?_ | refine g_exit ?_ | refine g_skip ?_)
    refine o_assign ?_
    first | refine g_endt ?_ | refine g_end ?_
    repeat (first | refine g_endt ?_ | refine g_end ?_ | refine g_then ?_ | refine g_in_normal ?_ | refine g_then_ret ?_ | refine g_in_ret ?_ | refine g_then_exit ?_ | refine g_in_exit rfl ?_ | refine g_in_exit_ne (by decide) ?_ | refine g_seq ?_ | refine g_region ?_ | refine g_block ?_ | refine g_ret ?_ | refine g_return_n ?_ | refine g_exit ?_ | refine g_skip ?_)
    exact ret1 rfl (resT (v := .int .i64 (-1)) rfl) ⟨by simp [NumD.cmp, cmpI, h1], rfl⟩
  · first | refine g_seq (g_cond_f rfl (by simpa using h1) ?_) | refine g_cond_f rfl (by simpa using h1) ?_
    repeat (first | refine g_endt ?_ | refine g_end ?_ | refine g_then ?_ | refine g_in_normal ?_ | refine g_then_ret ?_ | refine g_in_ret ?_ | refine g_then_exit ?_ | refine g_in_exit rfl ?_ | refine g_in_exit_ne (by decide) ?_ | refine g_seq ?_ | refine g_region ?_ | refine g_block ?_ | refine g_ret ?_ | refine g_return_n ?_ | refine g_exit ?_ | refine g_skip ?_)
    refine o_move ?_
    refine o_move ?_
    refine o_gtr (k := .i64) (a := a.n) (b := b.n) rfl rfl ?_
    refine o_assign ?_
    first | refine g_endt ?_ | refine g_end ?_
    by_cases h2 : a.n > b.n
    · first | refine g_seq (g_cond_t rfl (by simpa using h2) ?_) | refine g_cond_t rfl (by simpa using h2) ?_
      repeat (first | refine g_endt ?_ | refine g_end ?_ | refine g_then ?_ | refine g_in_normal ?_ | refine g_then_ret ?_ | refine g_in_ret ?_ | refine g_then_exit ?_ | refine g_in_exit rfl ?_ | refine g_in_exit_ne (by decide) ?_ | refine g_seq ?_ | refine g_region ?_ | refine g_block ?_ | refine g_ret ?_ | refine g_return_n ?_ | refine g_exit ?_ | refine g_skip ?_)
      refine o_assign ?_
      first | refine g_endt ?_ | refine g_end ?_
      repeat (first | refine g_endt ?_ | refine g_end ?_ | refine g_then ?_ | refine g_in_normal ?_ | refine g_then_ret ?_ | refine g_in_ret ?_ | refine g_then_exit ?_ | refine g_in_exit rfl ?_ | refine g_in_exit_ne (by decide) ?_ | refine g_seq ?_ | refine g_region ?_ | refine g_block ?_ | refine g_ret ?_ | refine g_return_n ?_ | refine g_exit ?_ | refine g_skip ?_)
      exact ret1 rfl (resT (v := .int .i64 1) rfl) ⟨by simp [NumD.cmp, cmpI, h1, h2], rfl⟩
    · first | refine g_seq (g_cond_f rfl (by simpa using h2) ?_) | refine g_cond_f rfl (by simpa using h2) ?_
      repeat (first | refine g_endt ?_ | refine g_end ?_ | refine g_then ?_ | refine g_in_normal ?_ | refine g_then_ret ?_ | refine g_in_ret ?_ | refine g_then_exit ?_ | refine g_in_exit rfl ?_ | refine g_in_exit_ne (by decide) ?_ | refine g_seq ?_ | refine g_region ?_ | refine g_block ?_ | refine g_ret ?_ | refine g_return_n ?_ | refine g_exit ?_ | refine g_skip ?_)
      refine o_assign ?_
      first | refine g_endt ?_ | refine g_end ?_
      repeat (first | refine g_endt ?_ | refine g_end ?_ | refine g_then ?_ | refine g_in_normal ?_ | refine g_then_ret ?_ | refine g_in_ret ?_ | refine g_then_exit ?_ | refine g_in_exit rfl ?_ | refine g_in_exit_ne (by decide) ?_ | refine g_seq ?_ | refine g_region ?_ | refine g_block ?_ | refine g_ret ?_ | refine g_return_n ?_ | refine g_exit ?_ | refine g_skip ?_)
      exact ret1 rfl (resT (v := .int .i64 0) rfl) ⟨by simp [NumD.cmp, cmpI, h1, h2], rfl⟩
end Go.Proofs.Ytdpbjoldgiikkaa
/- Pages of an ordered map, for one type of keys and one of values. -/
namespace Go.Proofs.Ytdpbjoldgiikkaa
open Go Go.Sl
attribute [local irreducible] Code.wpIn roundPost bodyPostM runL Ret Meets Begin

structure PgTE where
  k : NumD
  v : ElemD
def PgTE.vval (v : ElemD) : Value := v.val
def PgTE.val (p : PgTE) : Value := .agg #[.int .i64 p.k.n, .int .i64 p.v.id.kind, .string p.v.id.text, .int .i64 p.v.id.n, .int .i64 p.v.attr.kind, .string p.v.attr.text, .int .i64 p.v.attr.n, .int .i64 p.v.value.kind, .string p.v.value.text, .int .i64 p.v.value.n, .bool p.v.acc, .bool p.v.goal, .int .i64 p.v.tag]
def PgTE.enc (p : PgTE) : List Value := p.val.cells.toList
/-- As an argument of a call: one value. -/
def PgTE.enc' (p : PgTE) : List Value := [p.val]
instance : EncLen PgTE.enc 13 := ⟨fun _ => rfl, fun e u h => by simp [PgTE.enc, PgTE.val, Value.cells] at h; rcases h with h | h | h | h | h | h | h | h | h | h | h | h | h <;> subst h <;> rfl⟩
def PgTE.cmp (a b : PgTE) : Int := a.k.cmp b.k
theorem PgTE.lin : LinCmp PgTE.cmp := linNum.pull PgTE.k
def PgTE.enc2 (p : PgTE) : List Value := [p.k.val, PgTE.vval p.v]
def PgTE.zero : PgTE := ⟨⟨0⟩, ⟨⟨0, ByteArray.empty, 0⟩, ⟨0, ByteArray.empty, 0⟩, ⟨0, ByteArray.empty, 0⟩, false, false, 0⟩⟩
theorem PgTE.cmp_spec (a b : PgTE) : Ctr Try.prog 123 [a.val, b.val] [] (fun v M => v = .int .i64 (a.cmp b) ∧ M = []) := by
  refine spec_of Try.func123 rfl Try.ntmps123 rfl fun w0 F => ?_
  repeat (first | refine g_endt ?_ | refine g_end ?_ | refine g_then ?_ | refine g_in_normal ?_ | refine g_then_ret ?_ | refine g_in_ret ?_ | refine g_then_exit ?_ | refine g_in_exit rfl ?_ | refine g_in_exit_ne (by decide) ?_ | refine g_seq ?_ | refine g_region ?_ | refine g_block ?_ | refine g_ret ?_ | refine g_return_n ?_ | refine g_exit ?_ | refine g_skip ?_)
  refine o_boxc a.val.cells rfl rfl fun p => ?_
  refine o_boxc b.val.cells rfl rfl fun q => ?_
  refine o_assign ?_
  first | refine g_endt ?_ | refine g_end ?_
  repeat (first | refine g_endt ?_ | refine g_end ?_ | refine g_then ?_ | refine g_in_normal ?_ | refine g_then_ret ?_ | refine g_in_ret ?_ | refine g_then_exit ?_ | refine g_in_exit rfl ?_ | refine g_in_exit_ne (by decide) ?_ | refine g_seq ?_ | refine g_region ?_ | refine g_block ?_ | refine g_ret ?_ | refine g_return_n ?_ | refine g_exit ?_ | refine g_skip ?_)
  refine o_field rfl ?_
  refine o_load1 (v := a.k.val) rfl rfl ?_
  refine o_iface rfl (fun w => by kernel_rfl) ?_
  refine o_field rfl ?_
  refine o_load1 (v := b.k.val) rfl rfl ?_
  refine o_invoke (CompareTag_spec a.k b.k) rfl rfl (fun w => by kernel_rfl) ?_
  rintro _ _ ⟨rfl, rfl⟩
  refine o_assign ?_
  first | refine g_endt ?_ | refine g_end ?_
  repeat (first | refine g_endt ?_ | refine g_end ?_ | refine g_then ?_ | refine g_in_normal ?_ | refine g_then_ret ?_ | refine g_in_ret ?_ | refine g_then_exit ?_ | refine g_in_exit rfl ?_ | refine g_in_exit_ne (by decide) ?_ | refine g_seq ?_ | refine g_region ?_ | refine g_block ?_ | refine g_ret ?_ | refine g_return_n ?_ | refine g_exit ?_ | refine g_skip ?_)
  exact ret1 rfl (resT (v := .int .i64 (a.cmp b)) rfl) ⟨rfl, rfl⟩
end Go.Proofs.Ytdpbjoldgiikkaa
/- An ordered set's functions, for one type of members: find, own. -/
namespace Go.Proofs.Ytdpbjoldgiikkaa
open Go Go.Sl
attribute [local irreducible] Code.wpIn roundPost bodyPostM runL Ret Meets Begin

abbrev SetATE (p : Nat) (ys : List PgTE) : SProp := SetP 123 101 PgTE.enc 13 p ys
section
variable {w0 : World} {A : SProp} {L M : List SProp} {Φ : World → Prop}
theorem openTE (p : Nat) (ys : List PgTE) [tk : Take1 L (SetATE p ys) M] (h : ∀ S c b, G w0 A (cellsB p #[.slice S ys.length c, .bool b] 123 :: row 101 PgTE.enc 13 b S c ys :: M) Φ) : G w0 A L Φ := SetP.open h
theorem shutTE (p : Nat) (ys : List PgTE) (S : Option Addr) (c : Nat) (b : Bool) {len : Nat} (hl : ys.length = len) [tk : Take L [cellsB p #[.slice S len c, .bool b] 123, row 101 PgTE.enc 13 b S c ys] M] (h : G w0 A (SetATE p ys :: M) Φ) : G w0 A L Φ := SetP.shut (S := S) (c := c) (b := b) hl h
theorem shutFTE (p : Nat) (ys : List PgTE) (S : Option Addr) (c : Nat) {len : Nat} (hl : ys.length = len) [tk : Take L [cellsB p #[.slice S len c, .bool false] 123, osl 101 PgTE.enc 13 S c ys] M] (h : G w0 A (SetATE p ys :: M) Φ) : G w0 A L Φ := SetP.shut (S := S) (c := c) (b := false) hl (tk := tk) h
theorem shutTTE (p : Nat) (ys : List PgTE) (S : Option Addr) (c : Nat) {len : Nat} (hl : ys.length = len) [tk : Take L [cellsB p #[.slice S len c, .bool true] 123, psl PgTE.enc 13 S ys] M] (h : G w0 A (SetATE p ys :: M) Φ) : G w0 A L Φ := SetP.shut (S := S) (c := c) (b := true) hl (tk := tk) h
end
theorem findTE_spec (p : Nat) (ys : List PgTE) (x : PgTE) (hs : Srt PgTE.cmp ys) (hl : ys.length ≤ 1000000000) : Ctr Try.prog 88 [.pointer (some ⟨p, 0, none⟩), x.val] [SetATE p ys]
    (fun v M => ∃ (k : Nat) (there : Bool), v = .tuple #[.int .i64 (k : Int), .bool there] ∧ M = [SetATE p ys] ∧ FindR PgTE.cmp ys x k there) := by
  refine spec_of Try.func88 rfl Try.ntmps88 rfl fun w0 F => ?_
  repeat (first | refine g_endt ?_ | refine g_end ?_ | refine g_then ?_ | refine g_in_normal ?_ | refine g_then_ret ?_ | refine g_in_ret ?_ | refine g_then_exit ?_ | refine g_in_exit rfl ?_ | refine g_in_exit_ne (by decide) ?_ | refine g_seq ?_ | refine g_region ?_ | refine g_block ?_ | refine g_ret ?_ | refine g_return_n ?_ | refine g_exit ?_ | refine g_skip ?_)
  refine openTE p ys fun S c b => ?_
  refine o_boxc x.val.cells rfl rfl fun q => ?_
  refine o_assign ?_
  refine o_assign ?_
  first | refine g_endt ?_ | refine g_end ?_
  repeat (first | refine g_endt ?_ | refine g_end ?_ | refine g_then ?_ | refine g_in_normal ?_ | refine g_then_ret ?_ | refine g_in_ret ?_ | refine g_then_exit ?_ | refine g_in_exit rfl ?_ | refine g_in_exit_ne (by decide) ?_ | refine g_seq ?_ | refine g_region ?_ | refine g_block ?_ | refine g_ret ?_ | refine g_return_n ?_ | refine g_exit ?_ | refine g_skip ?_)
  refine g_draw [] [0,1,2,3,4,5,6] [cellsB p #[.slice S ys.length c, .bool b] 123] mixed rfl ?_
  refine ob_q rfl rfl ⟨_, fun X Q h => o_move (g_end (h _ _ ⟨rfl, rfl⟩)), ?_⟩
  refine ob_q rfl rfl ⟨_, fun X Q h => o_nil rfl (g_end (h _ _ ⟨rfl, rfl⟩)), ?_⟩
  refine ob_q rfl rfl ⟨_, fun X Q h => o_field rfl (g_end (h _ _ ⟨rfl, rfl⟩)), ?_⟩
  refine ob_q rfl rfl ⟨_, fun X Q h => o_load1 rfl rfl (g_end (h _ _ ⟨rfl, rfl⟩)), ?_⟩
  refine ob_q rfl rfl ⟨_, fun X Q h => o_len rfl rfl (g_end (h _ _ ⟨rfl, rfl⟩)), ?_⟩
  refine ob_q rfl rfl ⟨_, fun X Q h => o_assign (g_end (h _ _ ⟨rfl, rfl⟩)), ?_⟩
  refine ob_q rfl rfl ⟨_, fun X Q h => o_assign (g_end (h _ _ ⟨rfl, rfl⟩)), ?_⟩
  refine ob_nil ?_
  repeat (first | refine g_endt ?_ | refine g_end ?_ | refine g_then ?_ | refine g_in_normal ?_ | refine g_then_ret ?_ | refine g_in_ret ?_ | refine g_then_exit ?_ | refine g_in_exit rfl ?_ | refine g_in_exit_ne (by decide) ?_ | refine g_seq ?_ | refine g_region ?_ | refine g_block ?_ | refine g_ret ?_ | refine g_return_n ?_ | refine g_exit ?_ | refine g_skip ?_)
  refine g_loop (σ := {s : Nat × Nat // s.1 ≤ s.2 ∧ s.2 ≤ ys.length ∧ (∀ (j : Nat) (y : PgTE), j < s.1 → ys[j]? = some y → PgTE.cmp y x < 0) ∧ ∀ (j : Nat) (y : PgTE), s.2 ≤ j → ys[j]? = some y → 0 < PgTE.cmp y x})
    (S := fun s => [(0, .pointer (some ⟨p, 0, none⟩)), (3, .pointer (some ⟨q, 0, none⟩)), (6, .int .i64 (s.1.1 : Int)), (7, .int .i64 (s.1.2 : Int))])
    (H := fun _ => [cellsB p #[.slice S ys.length c, .bool b] 123, row 101 PgTE.enc 13 b S c ys, cellsB q x.val.cells 101]) (μ := fun s => s.1.2 - s.1.1)
    (s0 := ⟨(0, ys.length), Nat.zero_le _, Nat.le_refl _, fun j y h => absurd h (Nat.not_lt_zero j), fun j y h e => by rw [List.getElem?_eq_none h] at e; cases e⟩) (Sat.mem ⟨rfl, rfl, rfl, rfl, trivial⟩) ?_
  rintro ⟨⟨lo, hi⟩, h1, h2, h3, h4⟩ ρ'
  dsimp only at h1 h2 h3 h4 ⊢
  repeat (first | refine g_endt ?_ | refine g_end ?_ | refine g_then ?_ | refine g_in_normal ?_ | refine g_then_ret ?_ | refine g_in_ret ?_ | refine g_then_exit ?_ | refine g_in_exit rfl ?_ | refine g_in_exit_ne (by decide) ?_ | refine g_seq ?_ | refine g_region ?_ | refine g_block ?_ | refine g_ret ?_ | refine g_return_n ?_ | refine g_exit ?_ | refine g_skip ?_)
  refine o_move ?_
  refine o_move ?_
  refine o_lss rfl rfl ?_
  first | refine g_endt ?_ | refine g_end ?_
  by_cases h : lo < hi
  · first | refine g_seq (g_cond_t rfl (by simpa using h) ?_) | refine g_cond_t rfl (by simpa using h) ?_
    repeat (first | refine g_endt ?_ | refine g_end ?_ | refine g_then ?_ | refine g_in_normal ?_ | refine g_then_ret ?_ | refine g_in_ret ?_ | refine g_then_exit ?_ | refine g_in_exit rfl ?_ | refine g_in_exit_ne (by decide) ?_ | refine g_seq ?_ | refine g_region ?_ | refine g_block ?_ | refine g_ret ?_ | refine g_return_n ?_ | refine g_exit ?_ | refine g_skip ?_)
    refine o_move ?_
    refine o_move ?_
    refine o_move ?_
    refine o_sub (c := ((hi - lo : Nat) : Int)) rfl rfl (by omega) (by omega) (by omega) ?_
    refine o_quo (c := (((hi - lo) / 2 : Nat) : Int)) rfl rfl (by decide) (by rw [Int.tdiv_eq_ediv_of_nonneg (by omega)]; omega) (by omega) (by omega) ?_
    refine o_add (c := ((lo + (hi - lo) / 2 : Nat) : Int)) rfl rfl (by omega) (by omega) (by omega) ?_
    generalize hmid : lo + (hi - lo) / 2 = mid
    have hm1 : lo ≤ mid := by omega
    have hm2 : mid < hi := by omega
    have hm3 : mid < ys.length := by omega
    obtain ⟨y, hy⟩ : ∃ y, ys[mid]? = some y := ⟨_, List.getElem?_eq_getElem hm3⟩
    refine o_assign ?_
    refine g_endt ?_
    repeat (first | refine g_endt ?_ | refine g_end ?_ | refine g_then ?_ | refine g_in_normal ?_ | refine g_then_ret ?_ | refine g_in_ret ?_ | refine g_then_exit ?_ | refine g_in_exit rfl ?_ | refine g_in_exit_ne (by decide) ?_ | refine g_seq ?_ | refine g_region ?_ | refine g_block ?_ | refine g_ret ?_ | refine g_return_n ?_ | refine g_exit ?_ | refine g_skip ?_)
    refine g_draw [] [0,1,2,3,4,5,6,7,8,9,10] [cellsB p #[.slice S ys.length c, .bool b] 123, row 101 PgTE.enc 13 b S c ys, cellsB q x.val.cells 101] mixed rfl ?_
    refine ob_q rfl rfl ⟨_, fun X Q h => o_move (g_end (h _ _ ⟨rfl, rfl⟩)), ?_⟩
    refine ob_q rfl rfl ⟨_, fun X Q h => o_nil rfl (g_end (h _ _ ⟨rfl, rfl⟩)), ?_⟩
    refine ob_q rfl rfl ⟨_, fun X Q h => o_field rfl (g_end (h _ _ ⟨rfl, rfl⟩)), ?_⟩
    refine ob_q rfl rfl ⟨_, fun X Q h => o_load1 (v := .slice S ys.length c) rfl rfl (g_end (h _ _ ⟨rfl, rfl⟩)), ?_⟩
    refine ob_q rfl rfl ⟨_, fun X Q h => o_move (g_end (h _ _ ⟨rfl, rfl⟩)), ?_⟩
    refine ob_q rfl rfl ⟨_, fun X Q h => o_indexR (ys := ys) (i := mid) rfl rfl rfl hm3 rfl rfl (g_end (h _ _ ⟨rfl, rfl⟩)), ?_⟩
    refine ob_q rfl rfl ⟨_, fun X Q h => o_loadE (ys := ys) rfl rfl hy (g_end (h _ _ ⟨rfl, rfl⟩)), ?_⟩
    refine ob_q rfl rfl ⟨_, fun X Q h => o_iface (u := y.val) rfl (fun w => by kernel_rfl) (g_end (h _ _ ⟨rfl, rfl⟩)), ?_⟩
    refine ob_q rfl rfl ⟨_, fun X Q h => o_loadN (v := x.val) rfl rfl rfl (g_end (h _ _ ⟨rfl, rfl⟩)), ?_⟩
    refine ob_q rfl rfl ⟨_, fun X Q h => o_invoke (PgTE.cmp_spec y x) rfl rfl (fun w => by kernel_rfl) <| by rintro _ _ ⟨rfl, rfl⟩; exact (g_end (h _ _ ⟨rfl, rfl⟩)), ?_⟩
    refine ob_q rfl rfl ⟨_, fun X Q h => o_assign (g_end (h _ _ ⟨rfl, rfl⟩)), ?_⟩
    refine ob_nil ?_
    repeat (first | refine g_endt ?_ | refine g_end ?_ | refine g_then ?_ | refine g_in_normal ?_ | refine g_then_ret ?_ | refine g_in_ret ?_ | refine g_then_exit ?_ | refine g_in_exit rfl ?_ | refine g_in_exit_ne (by decide) ?_ | refine g_seq ?_ | refine g_region ?_ | refine g_block ?_ | refine g_ret ?_ | refine g_return_n ?_ | refine g_exit ?_ | refine g_skip ?_)
    refine o_move ?_
    refine o_eql rfl rfl ?_
    first | refine g_endt ?_ | refine g_end ?_
    by_cases hc : PgTE.cmp y x = 0
    · first | refine g_seq (g_cond_t rfl (by simpa using hc) ?_) | refine g_cond_t rfl (by simpa using hc) ?_
      repeat (first | refine g_endt ?_ | refine g_end ?_ | refine g_then ?_ | refine g_in_normal ?_ | refine g_then_ret ?_ | refine g_in_ret ?_ | refine g_then_exit ?_ | refine g_in_exit rfl ?_ | refine g_in_exit_ne (by decide) ?_ | refine g_seq ?_ | refine g_region ?_ | refine g_block ?_ | refine g_ret ?_ | refine g_return_n ?_ | refine g_exit ?_ | refine g_skip ?_)
      refine o_move ?_
      refine o_assign ?_
      refine o_assign ?_
      first | refine g_endt ?_ | refine g_end ?_
      refine shutTE p ys S c b rfl ?_
      repeat (first | refine g_endt ?_ | refine g_end ?_ | refine g_then ?_ | refine g_in_normal ?_ | refine g_then_ret ?_ | refine g_in_ret ?_ | refine g_then_exit ?_ | refine g_in_exit rfl ?_ | refine g_in_exit_ne (by decide) ?_ | refine g_seq ?_ | refine g_region ?_ | refine g_block ?_ | refine g_ret ?_ | refine g_return_n ?_ | refine g_exit ?_ | refine g_skip ?_)
      exact ret2 rfl (resT rfl) (resT rfl) ⟨mid, true, rfl, rfl, by omega, fun _ => ⟨y, hy, hc⟩, fun e => by cases e⟩
    · first | refine g_seq (g_cond_f rfl (by simpa using hc) ?_) | refine g_cond_f rfl (by simpa using hc) ?_
      repeat (first | refine g_endt ?_ | refine g_end ?_ | refine g_then ?_ | refine g_in_normal ?_ | refine g_then_ret ?_ | refine g_in_ret ?_ | refine g_then_exit ?_ | refine g_in_exit rfl ?_ | refine g_in_exit_ne (by decide) ?_ | refine g_seq ?_ | refine g_region ?_ | refine g_block ?_ | refine g_ret ?_ | refine g_return_n ?_ | refine g_exit ?_ | refine g_skip ?_)
      refine o_move ?_
      refine o_lss rfl rfl ?_
      first | refine g_endt ?_ | refine g_end ?_
      by_cases hn : PgTE.cmp y x < 0
      · first | refine g_seq (g_cond_t rfl (by simpa using hn) ?_) | refine g_cond_t rfl (by simpa using hn) ?_
        repeat (first | refine g_endt ?_ | refine g_end ?_ | refine g_then ?_ | refine g_in_normal ?_ | refine g_then_ret ?_ | refine g_in_ret ?_ | refine g_then_exit ?_ | refine g_in_exit rfl ?_ | refine g_in_exit_ne (by decide) ?_ | refine g_seq ?_ | refine g_region ?_ | refine g_block ?_ | refine g_ret ?_ | refine g_return_n ?_ | refine g_exit ?_ | refine g_skip ?_)
        refine o_move ?_
        refine o_add (c := ((mid + 1 : Nat) : Int)) rfl rfl (by omega) (by omega) (by omega) ?_
        refine o_assign ?_
        first | refine g_endt ?_ | refine g_end ?_
        repeat (first | refine g_endt ?_ | refine g_end ?_ | refine g_then ?_ | refine g_in_normal ?_ | refine g_then_ret ?_ | refine g_in_ret ?_ | refine g_then_exit ?_ | refine g_in_exit rfl ?_ | refine g_in_exit_ne (by decide) ?_ | refine g_seq ?_ | refine g_region ?_ | refine g_block ?_ | refine g_ret ?_ | refine g_return_n ?_ | refine g_exit ?_ | refine g_skip ?_)
        refine g_meets ⟨(mid + 1, hi), by show mid + 1 ≤ hi; omega, h2, fun j y' hj hy' => ?_, h4⟩ (by show hi - (mid + 1) < hi - lo; omega) (Sat.mem ⟨rfl, rfl, rfl, rfl, trivial⟩)
        by_cases e : j = mid
        · subst e; rw [hy] at hy'; cases hy'; exact hn
        · exact PgTE.lin.trans _ _ _ (hs j mid y' y (by dsimp only at hj; omega) hy' hy) hn
      · first | refine g_seq (g_cond_f rfl (by simpa using hn) ?_) | refine g_cond_f rfl (by simpa using hn) ?_
        repeat (first | refine g_endt ?_ | refine g_end ?_ | refine g_then ?_ | refine g_in_normal ?_ | refine g_then_ret ?_ | refine g_in_ret ?_ | refine g_then_exit ?_ | refine g_in_exit rfl ?_ | refine g_in_exit_ne (by decide) ?_ | refine g_seq ?_ | refine g_region ?_ | refine g_block ?_ | refine g_ret ?_ | refine g_return_n ?_ | refine g_exit ?_ | refine g_skip ?_)
        refine o_move ?_
        refine o_assign ?_
        first | refine g_endt ?_ | refine g_end ?_
        repeat (first | refine g_endt ?_ | refine g_end ?_ | refine g_then ?_ | refine g_in_normal ?_ | refine g_then_ret ?_ | refine g_in_ret ?_ | refine g_then_exit ?_ | refine g_in_exit rfl ?_ | refine g_in_exit_ne (by decide) ?_ | refine g_seq ?_ | refine g_region ?_ | refine g_block ?_ | refine g_ret ?_ | refine g_return_n ?_ | refine g_exit ?_ | refine g_skip ?_)
        refine g_meets ⟨(lo, mid), hm1, by show mid ≤ ys.length; omega, h3, fun j y' hj hy' => ?_⟩ (by show mid - lo < hi - lo; omega) (Sat.mem ⟨rfl, rfl, rfl, rfl, trivial⟩)
        by_cases e : j = mid
        · subst e; rw [hy] at hy'; cases hy'; omega
        · have h5 := hs mid j y y' (by dsimp only at hj; omega) hy hy'
          have h6 := PgTE.lin.swap x y
          have h7 := PgTE.lin.trans x y y' (by omega) h5
          have h8 := PgTE.lin.swap x y'
          omega
  · first | refine g_seq (g_cond_f rfl (by simpa using h) ?_) | refine g_cond_f rfl (by simpa using h) ?_
    have e : lo = hi := by omega
    subst e
    repeat (first | refine g_endt ?_ | refine g_end ?_ | refine g_then ?_ | refine g_in_normal ?_ | refine g_then_ret ?_ | refine g_in_ret ?_ | refine g_then_exit ?_ | refine g_in_exit rfl ?_ | refine g_in_exit_ne (by decide) ?_ | refine g_seq ?_ | refine g_region ?_ | refine g_block ?_ | refine g_ret ?_ | refine g_return_n ?_ | refine g_exit ?_ | refine g_skip ?_)
    refine o_move ?_
    refine o_assign ?_
    refine o_assign ?_
    first | refine g_endt ?_ | refine g_end ?_
    refine shutTE p ys S c b rfl ?_
    repeat (first | refine g_endt ?_ | refine g_end ?_ | refine g_then ?_ | refine g_in_normal ?_ | refine g_then_ret ?_ | refine g_in_ret ?_ | refine g_then_exit ?_ | refine g_in_exit rfl ?_ | refine g_in_exit_ne (by decide) ?_ | refine g_seq ?_ | refine g_region ?_ | refine g_block ?_ | refine g_ret ?_ | refine g_return_n ?_ | refine g_exit ?_ | refine g_skip ?_)
    exact ret2 rfl (resT rfl) (resT rfl) ⟨lo, false, rfl, rfl, h2, fun e => (by cases e), fun _ => ⟨h3, h4⟩⟩
end Go.Proofs.Ytdpbjoldgiikkaa
/- An ordered set's functions, for one type of members: own, Put. -/
namespace Go.Proofs.Ytdpbjoldgiikkaa
open Go Go.Sl
attribute [local irreducible] Code.wpIn roundPost bodyPostM runL Ret Meets Begin

theorem ownTE_spec (p : Nat) (ys : List PgTE) (hl : ys.length ≤ 1000000000) : Ctr Try.prog 92 [.pointer (some ⟨p, 0, none⟩)] [SetATE p ys]
    (fun _ M => ∃ (S : Option Addr) (c : Nat), M = [cellsB p #[.slice S ys.length c, .bool false] 123, osl 101 PgTE.enc 13 S c ys]) := by
  refine spec_of Try.func92 rfl Try.ntmps92 rfl fun w0 F => ?_
  repeat (first | refine g_endt ?_ | refine g_end ?_ | refine g_then ?_ | refine g_in_normal ?_ | refine g_then_ret ?_ | refine g_in_ret ?_ | refine g_then_exit ?_ | refine g_in_exit rfl ?_ | refine g_in_exit_ne (by decide) ?_ | refine g_seq ?_ | refine g_region ?_ | refine g_block ?_ | refine g_ret ?_ | refine g_return_n ?_ | refine g_exit ?_ | refine g_skip ?_)
  refine openTE p ys fun S c b => ?_
  refine o_move ?_
  refine o_nil rfl ?_
  refine o_field rfl ?_
  refine o_load1 (v := .bool b) rfl rfl ?_
  refine g_endt ?_
  cases b
  · first | refine g_seq (g_cond_f rfl (rfl) ?_) | refine g_cond_f rfl (rfl) ?_
    change G _ _ [cellsB p #[.slice S ys.length c, .bool false] 123, osl 101 PgTE.enc 13 S c ys] _
    repeat (first | refine g_endt ?_ | refine g_end ?_ | refine g_then ?_ | refine g_in_normal ?_ | refine g_then_ret ?_ | refine g_in_ret ?_ | refine g_then_exit ?_ | refine g_in_exit rfl ?_ | refine g_in_exit_ne (by decide) ?_ | refine g_seq ?_ | refine g_region ?_ | refine g_block ?_ | refine g_ret ?_ | refine g_return_n ?_ | refine g_exit ?_ | refine g_skip ?_)
    exact ret0 rfl ⟨S, c, rfl⟩
  · first | refine g_seq (g_cond_t rfl (rfl) ?_) | refine g_cond_t rfl (rfl) ?_
    change G _ _ [cellsB p #[.slice S ys.length c, .bool true] 123, psl PgTE.enc 13 S ys] _
    repeat (first | refine g_endt ?_ | refine g_end ?_ | refine g_then ?_ | refine g_in_normal ?_ | refine g_then_ret ?_ | refine g_in_ret ?_ | refine g_then_exit ?_ | refine g_in_exit rfl ?_ | refine g_in_exit_ne (by decide) ?_ | refine g_seq ?_ | refine g_region ?_ | refine g_block ?_ | refine g_ret ?_ | refine g_return_n ?_ | refine g_exit ?_ | refine g_skip ?_)
    refine g_draw [7, 12, 15] [0,1,2,3,4,5,6,8,9,10,11,7,12,13,14,15] [cellsB p #[.slice S ys.length c, .bool true] 123, psl PgTE.enc 13 S ys] mixed rfl ?_
    refine ob_q rfl rfl ⟨_, fun X Q h => o_move (g_end (h _ _ ⟨rfl, rfl⟩)), ?_⟩
    refine ob_q rfl rfl ⟨_, fun X Q h => o_move (g_end (h _ _ ⟨rfl, rfl⟩)), ?_⟩
    refine ob_q rfl rfl ⟨_, fun X Q h => o_nil rfl (g_end (h _ _ ⟨rfl, rfl⟩)), ?_⟩
    refine ob_q rfl rfl ⟨_, fun X Q h => o_field rfl (g_end (h _ _ ⟨rfl, rfl⟩)), ?_⟩
    refine ob_q rfl rfl ⟨_, fun X Q h => o_load1 (v := .slice S ys.length c) rfl rfl (g_end (h _ _ ⟨rfl, rfl⟩)), ?_⟩
    refine ob_q rfl rfl ⟨_, fun X Q h => o_len rfl rfl (g_end (h _ _ ⟨rfl, rfl⟩)), ?_⟩
    refine ob_q rfl rfl ⟨_, fun X Q h => o_add (c := ((ys.length + 1 : Nat) : Int)) rfl rfl (by omega) (by omega) (by omega) (g_end (h _ _ ⟨rfl, rfl⟩)), ?_⟩
    refine ob_q rfl rfl ⟨_, fun X Q h => o_move (g_end (h _ _ ⟨rfl, rfl⟩)), ?_⟩
    refine ob_q rfl rfl ⟨_, fun X Q h => o_nil rfl (g_end (h _ _ ⟨rfl, rfl⟩)), ?_⟩
    refine ob_q rfl rfl ⟨_, fun X Q h => o_field rfl (g_end (h _ _ ⟨rfl, rfl⟩)), ?_⟩
    refine ob_q rfl rfl ⟨_, fun X Q h => o_load1 (v := .slice S ys.length c) rfl rfl (g_end (h _ _ ⟨rfl, rfl⟩)), ?_⟩
    refine ob_l rfl rfl fun Qz hz => o_make0 (α := PgTE) (enc := PgTE.enc) rfl rfl rfl (by omega) (by simp [maxLen]; omega) fun T => g_end (hz _ _ ⟨_, ob_fin, ?_⟩)
    clear hz Qz
    refine ob_l rfl rfl fun Qz hz => o_append0 (ys := ys) rfl rfl rfl rfl rfl (by simp [maxLen]; omega) (by omega) fun U d => g_end (hz _ _ ⟨_, ob_fin, ?_⟩)
    clear hz Qz
    refine ob_q rfl rfl ⟨_, fun X Q h => o_nil rfl (g_end (h _ _ ⟨rfl, rfl⟩)), ?_⟩
    refine ob_q rfl rfl ⟨_, fun X Q h => o_field rfl (g_end (h _ _ ⟨rfl, rfl⟩)), ?_⟩
    refine ob_s ([]) rfl rfl rfl fun Qz hz => o_store (v := .slice U ys.length d) rfl rfl rfl rfl rfl <| g_end (hz _ _ ⟨_, ob_fin, ?_⟩)
    clear hz Qz
    refine ob_nil ?_
    repeat (first | refine g_endt ?_ | refine g_end ?_ | refine g_then ?_ | refine g_in_normal ?_ | refine g_then_ret ?_ | refine g_in_ret ?_ | refine g_then_exit ?_ | refine g_in_exit rfl ?_ | refine g_in_exit_ne (by decide) ?_ | refine g_seq ?_ | refine g_region ?_ | refine g_block ?_ | refine g_ret ?_ | refine g_return_n ?_ | refine g_exit ?_ | refine g_skip ?_)
    refine o_move ?_
    refine o_nil rfl ?_
    refine o_field rfl ?_
    refine o_store rfl rfl rfl rfl rfl ?_
    first | refine g_endt ?_ | refine g_end ?_
    repeat (first | refine g_endt ?_ | refine g_end ?_ | refine g_then ?_ | refine g_in_normal ?_ | refine g_then_ret ?_ | refine g_in_ret ?_ | refine g_then_exit ?_ | refine g_in_exit rfl ?_ | refine g_in_exit_ne (by decide) ?_ | refine g_seq ?_ | refine g_region ?_ | refine g_block ?_ | refine g_ret ?_ | refine g_return_n ?_ | refine g_exit ?_ | refine g_skip ?_)
    refine G.norm p #[.slice U ys.length d, .bool false] rfl ?_
    exact ret0 rfl ⟨U, d, rfl⟩
end Go.Proofs.Ytdpbjoldgiikkaa
/- An ordered set's functions, for one type of members: Put. -/
namespace Go.Proofs.Ytdpbjoldgiikkaa
open Go Go.Sl
attribute [local irreducible] Code.wpIn roundPost bodyPostM runL Ret Meets Begin

theorem take_snocPTE {α : Type} (ys : List α) (i : Nat) (y : α) (h : ys[i]? = some y) : ys.take (i + 1) = ys.take i ++ [y] := by rw [List.take_add_one, h]; rfl
theorem gapTE (ys : List PgTE) (i : Nat) (w y : PgTE) (hi : i < ys.length) (hy : ys[i]? = some y) : (ys.take (i + 1) ++ w :: ys.drop (i + 1)).set (i + 1) y = ys.take i ++ y :: ys.drop i := by
  have h1 : (ys.take (i + 1)).length = i + 1 := by simp; omega
  have h2 : ys.drop i = y :: ys.drop (i + 1) := by
    rw [List.drop_eq_getElem_cons hi]
    rw [List.getElem?_eq_getElem hi] at hy
    cases hy
    rfl
  rw [List.set_append_right _ _ (by omega), h1, Nat.sub_self, List.set_cons_zero, take_snocPTE ys i y hy, h2]
  simp
theorem PutTE_spec (p : Nat) (ys : List PgTE) (x : PgTE) (hs : Srt PgTE.cmp ys) (hl : ys.length < 1000000000) : Ctr Try.prog 84 [.pointer (some ⟨p, 0, none⟩), x.val] [SetATE p ys]
    (fun v M => ∃ (k : Nat) (there : Bool), v = .bool !there ∧ M = [SetATE p (cond there ys (ys.take k ++ x :: ys.drop k))] ∧ FindR PgTE.cmp ys x k there) := by
  refine spec_of Try.func84 rfl Try.ntmps84 rfl fun w0 F => ?_
  repeat (first | refine g_endt ?_ | refine g_end ?_ | refine g_then ?_ | refine g_in_normal ?_ | refine g_then_ret ?_ | refine g_in_ret ?_ | refine g_then_exit ?_ | refine g_in_exit rfl ?_ | refine g_in_exit_ne (by decide) ?_ | refine g_seq ?_ | refine g_region ?_ | refine g_block ?_ | refine g_ret ?_ | refine g_return_n ?_ | refine g_exit ?_ | refine g_skip ?_)
  refine o_boxc x.val.cells rfl rfl fun q => ?_
  refine o_assign ?_
  first | refine g_endt ?_ | refine g_end ?_
  repeat (first | refine g_endt ?_ | refine g_end ?_ | refine g_then ?_ | refine g_in_normal ?_ | refine g_then_ret ?_ | refine g_in_ret ?_ | refine g_then_exit ?_ | refine g_in_exit rfl ?_ | refine g_in_exit_ne (by decide) ?_ | refine g_seq ?_ | refine g_region ?_ | refine g_block ?_ | refine g_ret ?_ | refine g_return_n ?_ | refine g_exit ?_ | refine g_skip ?_)
  refine o_move ?_
  refine o_peql rfl ?_
  first | refine g_endt ?_ | refine g_end ?_
  first | refine g_seq (g_cond_f rfl (rfl) ?_) | refine g_cond_f rfl (rfl) ?_
  repeat (first | refine g_endt ?_ | refine g_end ?_ | refine g_then ?_ | refine g_in_normal ?_ | refine g_then_ret ?_ | refine g_in_ret ?_ | refine g_then_exit ?_ | refine g_in_exit rfl ?_ | refine g_in_exit_ne (by decide) ?_ | refine g_seq ?_ | refine g_region ?_ | refine g_block ?_ | refine g_ret ?_ | refine g_return_n ?_ | refine g_exit ?_ | refine g_skip ?_)
  refine o_move ?_
  refine o_loadN (v := x.val) rfl rfl rfl ?_
  refine o_call (findTE_spec p ys x hs (by omega)) rfl rfl ?_
  rintro _ _ ⟨k, there, rfl, rfl, hk⟩
  refine o_move ?_
  refine o_extract rfl rfl ?_
  refine o_extract rfl rfl ?_
  refine o_assign ?_
  refine o_assign ?_
  first | refine g_endt ?_ | refine g_end ?_
  repeat (first | refine g_endt ?_ | refine g_end ?_ | refine g_then ?_ | refine g_in_normal ?_ | refine g_then_ret ?_ | refine g_in_ret ?_ | refine g_then_exit ?_ | refine g_in_exit rfl ?_ | refine g_in_exit_ne (by decide) ?_ | refine g_seq ?_ | refine g_region ?_ | refine g_block ?_ | refine g_ret ?_ | refine g_return_n ?_ | refine g_exit ?_ | refine g_skip ?_)
  refine o_move ?_
  refine g_endt ?_
  cases there
  case true =>
    first | refine g_seq (g_cond_t rfl (rfl) ?_) | refine g_cond_t rfl (rfl) ?_
    repeat (first | refine g_endt ?_ | refine g_end ?_ | refine g_then ?_ | refine g_in_normal ?_ | refine g_then_ret ?_ | refine g_in_ret ?_ | refine g_then_exit ?_ | refine g_in_exit rfl ?_ | refine g_in_exit_ne (by decide) ?_ | refine g_seq ?_ | refine g_region ?_ | refine g_block ?_ | refine g_ret ?_ | refine g_return_n ?_ | refine g_exit ?_ | refine g_skip ?_)
    refine o_assign ?_
    first | refine g_endt ?_ | refine g_end ?_
    repeat (first | refine g_endt ?_ | refine g_end ?_ | refine g_then ?_ | refine g_in_normal ?_ | refine g_then_ret ?_ | refine g_in_ret ?_ | refine g_then_exit ?_ | refine g_in_exit rfl ?_ | refine g_in_exit_ne (by decide) ?_ | refine g_seq ?_ | refine g_region ?_ | refine g_block ?_ | refine g_ret ?_ | refine g_return_n ?_ | refine g_exit ?_ | refine g_skip ?_)
    exact ret1 (K := [SetATE p ys]) rfl (resT rfl) ⟨k, true, rfl, rfl, hk⟩
  first | refine g_seq (g_cond_f rfl (rfl) ?_) | refine g_cond_f rfl (rfl) ?_
  repeat (first | refine g_endt ?_ | refine g_end ?_ | refine g_then ?_ | refine g_in_normal ?_ | refine g_then_ret ?_ | refine g_in_ret ?_ | refine g_then_exit ?_ | refine g_in_exit rfl ?_ | refine g_in_exit_ne (by decide) ?_ | refine g_seq ?_ | refine g_region ?_ | refine g_block ?_ | refine g_ret ?_ | refine g_return_n ?_ | refine g_exit ?_ | refine g_skip ?_)
  refine o_move ?_
  refine o_call (ownTE_spec p ys (by omega)) rfl rfl ?_
  rintro _ _ ⟨S, c, rfl⟩
  refine g_endt ?_
  repeat (first | refine g_endt ?_ | refine g_end ?_ | refine g_then ?_ | refine g_in_normal ?_ | refine g_then_ret ?_ | refine g_in_ret ?_ | refine g_then_exit ?_ | refine g_in_exit rfl ?_ | refine g_in_exit_ne (by decide) ?_ | refine g_seq ?_ | refine g_region ?_ | refine g_block ?_ | refine g_ret ?_ | refine g_return_n ?_ | refine g_exit ?_ | refine g_skip ?_)
  refine g_draw [6, 7, 10] [0,1,2,3,4,5,6,7,8,9,10] [cellsB p #[.slice S ys.length c, .bool false] 123, cellsB q x.val.cells 101] mixed rfl ?_
  refine ob_q rfl rfl ⟨_, fun X Q h => o_move (g_end (h _ _ ⟨rfl, rfl⟩)), ?_⟩
  refine ob_q rfl rfl ⟨_, fun X Q h => o_move (g_end (h _ _ ⟨rfl, rfl⟩)), ?_⟩
  refine ob_q rfl rfl ⟨_, fun X Q h => o_nil rfl (g_end (h _ _ ⟨rfl, rfl⟩)), ?_⟩
  refine ob_q rfl rfl ⟨_, fun X Q h => o_field rfl (g_end (h _ _ ⟨rfl, rfl⟩)), ?_⟩
  refine ob_q rfl rfl ⟨_, fun X Q h => o_load1 (v := .slice S ys.length c) rfl rfl (g_end (h _ _ ⟨rfl, rfl⟩)), ?_⟩
  refine ob_q rfl rfl ⟨_, fun X Q h => o_loadN (v := x.val) rfl rfl rfl (g_end (h _ _ ⟨rfl, rfl⟩)), ?_⟩
  refine ob_l rfl rfl fun Qz hz => o_slice_lit (e := 101) x.val.cells (fun w => by kernel_rfl) fun g => G.lit_slice (enc := PgTE.enc) (sz := 13) [x] (by simp [PgTE.enc]) (by simp [maxLen]) <| G.freeze_slice <| g_end (hz _ _ ⟨_, ob_fin, ?_⟩)
  clear hz Qz
  refine ob_l rfl rfl fun Qz hz => o_append (xs := ys) (ys := [x]) rfl rfl rfl rfl rfl (fun _ => .inr trivial) (by simp [maxLen]; omega) (by simp; omega) fun U d => g_end (hz _ _ ⟨_, ob_fin, ?_⟩)
  clear hz Qz
  refine ob_q rfl rfl ⟨_, fun X Q h => o_nil rfl (g_end (h _ _ ⟨rfl, rfl⟩)), ?_⟩
  refine ob_q rfl rfl ⟨_, fun X Q h => o_field rfl (g_end (h _ _ ⟨rfl, rfl⟩)), ?_⟩
  refine ob_s ([]) rfl rfl rfl fun Qz hz => o_store (v := .slice U (ys.length + 1) d) rfl rfl rfl rfl rfl <| g_end (hz _ _ ⟨_, ob_fin, ?_⟩)
  clear hz Qz
  refine ob_nil ?_
  refine G.norm p #[.slice U (ys.length + 1) d, .bool false] rfl ?_
  repeat (first | refine g_endt ?_ | refine g_end ?_ | refine g_then ?_ | refine g_in_normal ?_ | refine g_then_ret ?_ | refine g_in_ret ?_ | refine g_then_exit ?_ | refine g_in_exit rfl ?_ | refine g_in_exit_ne (by decide) ?_ | refine g_seq ?_ | refine g_region ?_ | refine g_block ?_ | refine g_ret ?_ | refine g_return_n ?_ | refine g_exit ?_ | refine g_skip ?_)
  refine o_move ?_
  refine o_nil rfl ?_
  refine o_field rfl ?_
  refine o_load1 (v := .slice U (ys.length + 1) d) rfl rfl ?_
  refine o_len rfl rfl ?_
  refine o_sub (c := ((ys.length : Nat) : Int)) rfl rfl (by omega) (by omega) (by omega) ?_
  refine o_assign ?_
  refine g_endt ?_
  repeat (first | refine g_endt ?_ | refine g_end ?_ | refine g_then ?_ | refine g_in_normal ?_ | refine g_then_ret ?_ | refine g_in_ret ?_ | refine g_then_exit ?_ | refine g_in_exit rfl ?_ | refine g_in_exit_ne (by decide) ?_ | refine g_seq ?_ | refine g_region ?_ | refine g_block ?_ | refine g_ret ?_ | refine g_return_n ?_ | refine g_exit ?_ | refine g_skip ?_)
  have hk1 : k ≤ ys.length := hk.1
  refine g_loop (σ := {s : Nat × PgTE // k ≤ s.1 ∧ s.1 ≤ ys.length})
    (S := fun s => [(0, .pointer (some ⟨p, 0, none⟩)), (3, .pointer (some ⟨q, 0, none⟩)), (5, .int .i64 (k : Int)), (7, .int .i64 (s.1.1 : Int))])
    (H := fun s => [cellsB p #[.slice U (ys.length + 1) d, .bool false] 123, cellsB q x.val.cells 101, osl 101 PgTE.enc 13 U d (ys.take s.1.1 ++ s.1.2 :: ys.drop s.1.1)]) (μ := fun s => s.1.1)
    (s0 := ⟨(ys.length, x), hk1, Nat.le_refl _⟩) (Sat.mem ⟨rfl, rfl, rfl, rfl, trivial⟩) (t := by simp only [List.take_length, List.drop_length]; infer_instance) ?_
  rintro ⟨⟨i, w⟩, h1, h2⟩ ρ'
  dsimp only at h1 h2 ⊢
  have hlen : (ys.take i ++ w :: ys.drop i).length = ys.length + 1 := by simp; omega
  repeat (first | refine g_endt ?_ | refine g_end ?_ | refine g_then ?_ | refine g_in_normal ?_ | refine g_then_ret ?_ | refine g_in_ret ?_ | refine g_then_exit ?_ | refine g_in_exit rfl ?_ | refine g_in_exit_ne (by decide) ?_ | refine g_seq ?_ | refine g_region ?_ | refine g_block ?_ | refine g_ret ?_ | refine g_return_n ?_ | refine g_exit ?_ | refine g_skip ?_)
  refine o_move ?_
  refine o_move ?_
  refine o_gtr rfl rfl ?_
  first | refine g_endt ?_ | refine g_end ?_
  by_cases h : k < i
  · first | refine g_seq (g_cond_t rfl (by simpa using h) ?_) | refine g_cond_t rfl (by simpa using h) ?_
    repeat (first | refine g_endt ?_ | refine g_end ?_ | refine g_then ?_ | refine g_in_normal ?_ | refine g_then_ret ?_ | refine g_in_ret ?_ | refine g_then_exit ?_ | refine g_in_exit rfl ?_ | refine g_in_exit_ne (by decide) ?_ | refine g_seq ?_ | refine g_region ?_ | refine g_block ?_ | refine g_ret ?_ | refine g_return_n ?_ | refine g_exit ?_ | refine g_skip ?_)
    obtain ⟨i, rfl⟩ : ∃ j, i = j + 1 := ⟨i - 1, by omega⟩
    have hi : i < ys.length := by omega
    obtain ⟨y, hy⟩ : ∃ y, ys[i]? = some y := ⟨_, List.getElem?_eq_getElem hi⟩
    have hz : (ys.take (i + 1) ++ w :: ys.drop (i + 1))[i]? = some y := by
      rw [List.getElem?_append_left (by simp; omega), List.getElem?_take, if_pos (by omega), hy]
    refine g_draw [14] [0,1,2,3,4,5,6,7,8,9,10,11,12,13,14] [cellsB p #[.slice U (ys.length + 1) d, .bool false] 123, osl 101 PgTE.enc 13 U d (ys.take (i + 1) ++ w :: ys.drop (i + 1))] mixed rfl ?_
    refine ob_q rfl rfl ⟨_, fun X Q h => o_move (g_end (h _ _ ⟨rfl, rfl⟩)), ?_⟩
    refine ob_q rfl rfl ⟨_, fun X Q h => o_nil rfl (g_end (h _ _ ⟨rfl, rfl⟩)), ?_⟩
    refine ob_q rfl rfl ⟨_, fun X Q h => o_field rfl (g_end (h _ _ ⟨rfl, rfl⟩)), ?_⟩
    refine ob_q rfl rfl ⟨_, fun X Q h => o_load1 (v := .slice U (ys.length + 1) d) rfl rfl (g_end (h _ _ ⟨rfl, rfl⟩)), ?_⟩
    refine ob_q rfl rfl ⟨_, fun X Q h => o_move (g_end (h _ _ ⟨rfl, rfl⟩)), ?_⟩
    refine ob_q rfl rfl ⟨_, fun X Q h => o_move (g_end (h _ _ ⟨rfl, rfl⟩)), ?_⟩
    refine ob_q rfl rfl ⟨_, fun X Q h => o_nil rfl (g_end (h _ _ ⟨rfl, rfl⟩)), ?_⟩
    refine ob_q rfl rfl ⟨_, fun X Q h => o_field rfl (g_end (h _ _ ⟨rfl, rfl⟩)), ?_⟩
    refine ob_q rfl rfl ⟨_, fun X Q h => o_load1 (v := .slice U (ys.length + 1) d) rfl rfl (g_end (h _ _ ⟨rfl, rfl⟩)), ?_⟩
    refine ob_q rfl rfl ⟨_, fun X Q h => o_move (g_end (h _ _ ⟨rfl, rfl⟩)), ?_⟩
    refine ob_q rfl rfl ⟨_, fun X Q h => o_sub (c := ((i : Nat) : Int)) rfl rfl (by omega) (by omega) (by omega) (g_end (h _ _ ⟨rfl, rfl⟩)), ?_⟩
    refine ob_q rfl rfl ⟨_, fun X Q h => o_indexR (i := i) rfl rfl rfl (by omega) hlen rfl (g_end (h _ _ ⟨rfl, rfl⟩)), ?_⟩
    refine ob_q rfl rfl ⟨_, fun X Q h => o_loadE (enc := PgTE.enc) rfl rfl hz (g_end (h _ _ ⟨rfl, rfl⟩)), ?_⟩
    refine ob_q rfl rfl ⟨_, fun X Q h => o_indexR (i := i + 1) rfl rfl rfl (by omega) hlen rfl (g_end (h _ _ ⟨rfl, rfl⟩)), ?_⟩
    refine ob_s ([]) rfl rfl rfl fun Qz hz => o_storeE (e := 101) (c := d) (v := y.val) (z := y) (i := i + 1) (enc := PgTE.enc) (xs := ys.take (i + 1) ++ w :: ys.drop (i + 1)) rfl rfl rfl rfl (by omega) <| g_end (hz _ _ ⟨_, ob_fin, ?_⟩)
    clear hz Qz
    refine ob_nil ?_
    rw [gapTE ys i w y hi hy]
    repeat (first | refine g_endt ?_ | refine g_end ?_ | refine g_then ?_ | refine g_in_normal ?_ | refine g_then_ret ?_ | refine g_in_ret ?_ | refine g_then_exit ?_ | refine g_in_exit rfl ?_ | refine g_in_exit_ne (by decide) ?_ | refine g_seq ?_ | refine g_region ?_ | refine g_block ?_ | refine g_ret ?_ | refine g_return_n ?_ | refine g_exit ?_ | refine g_skip ?_)
    refine o_move ?_
    refine o_sub (c := ((i : Nat) : Int)) rfl rfl (by omega) (by omega) (by omega) ?_
    refine o_assign ?_
    refine g_endt ?_
    repeat (first | refine g_endt ?_ | refine g_end ?_ | refine g_then ?_ | refine g_in_normal ?_ | refine g_then_ret ?_ | refine g_in_ret ?_ | refine g_then_exit ?_ | refine g_in_exit rfl ?_ | refine g_in_exit_ne (by decide) ?_ | refine g_seq ?_ | refine g_region ?_ | refine g_block ?_ | refine g_ret ?_ | refine g_return_n ?_ | refine g_exit ?_ | refine g_skip ?_)
    exact g_meets ⟨(i, y), by show k ≤ i; omega, by show i ≤ ys.length; omega⟩ (by show i < i + 1; omega) (Sat.mem ⟨rfl, rfl, rfl, rfl, trivial⟩)
  · first | refine g_seq (g_cond_f rfl (by simpa using h) ?_) | refine g_cond_f rfl (by simpa using h) ?_
    have e : i = k := by omega
    subst e
    repeat (first | refine g_endt ?_ | refine g_end ?_ | refine g_then ?_ | refine g_in_normal ?_ | refine g_then_ret ?_ | refine g_in_ret ?_ | refine g_then_exit ?_ | refine g_in_exit rfl ?_ | refine g_in_exit_ne (by decide) ?_ | refine g_seq ?_ | refine g_region ?_ | refine g_block ?_ | refine g_ret ?_ | refine g_return_n ?_ | refine g_exit ?_ | refine g_skip ?_)
    refine g_draw [7] [0,1,2,3,4,5,6,7] [cellsB p #[.slice U (ys.length + 1) d, .bool false] 123, osl 101 PgTE.enc 13 U d (ys.take i ++ w :: ys.drop i), cellsB q x.val.cells 101] mixed rfl ?_
    refine ob_q rfl rfl ⟨_, fun X Q h => o_move (g_end (h _ _ ⟨rfl, rfl⟩)), ?_⟩
    refine ob_q rfl rfl ⟨_, fun X Q h => o_nil rfl (g_end (h _ _ ⟨rfl, rfl⟩)), ?_⟩
    refine ob_q rfl rfl ⟨_, fun X Q h => o_field rfl (g_end (h _ _ ⟨rfl, rfl⟩)), ?_⟩
    refine ob_q rfl rfl ⟨_, fun X Q h => o_load1 (v := .slice U (ys.length + 1) d) rfl rfl (g_end (h _ _ ⟨rfl, rfl⟩)), ?_⟩
    refine ob_q rfl rfl ⟨_, fun X Q h => o_move (g_end (h _ _ ⟨rfl, rfl⟩)), ?_⟩
    refine ob_q rfl rfl ⟨_, fun X Q h => o_loadN (v := x.val) rfl rfl rfl (g_end (h _ _ ⟨rfl, rfl⟩)), ?_⟩
    refine ob_q rfl rfl ⟨_, fun X Q h => o_indexR (i := i) rfl rfl rfl (by omega) hlen rfl (g_end (h _ _ ⟨rfl, rfl⟩)), ?_⟩
    refine ob_s ([]) rfl rfl rfl fun Qz hz => o_storeE (e := 101) (c := d) (v := x.val) (z := x) (i := i) (enc := PgTE.enc) (xs := ys.take i ++ w :: ys.drop i) rfl rfl rfl rfl (by omega) <| g_end (hz _ _ ⟨_, ob_fin, ?_⟩)
    clear hz Qz
    refine ob_nil ?_
    have hset : (ys.take i ++ w :: ys.drop i).set i x = ys.take i ++ x :: ys.drop i := by
      have h3 : (ys.take i).length = i := by simp; omega
      rw [List.set_append_right _ _ (by omega), h3, Nat.sub_self, List.set_cons_zero]
    rw [hset]
    repeat (first | refine g_endt ?_ | refine g_end ?_ | refine g_then ?_ | refine g_in_normal ?_ | refine g_then_ret ?_ | refine g_in_ret ?_ | refine g_then_exit ?_ | refine g_in_exit rfl ?_ | refine g_in_exit_ne (by decide) ?_ | refine g_seq ?_ | refine g_region ?_ | refine g_block ?_ | refine g_ret ?_ | refine g_return_n ?_ | refine g_exit ?_ | refine g_skip ?_)
    refine o_assign ?_
    first | refine g_endt ?_ | refine g_end ?_
    refine shutFTE p (ys.take i ++ x :: ys.drop i) U d (len := ys.length + 1) (by simp; omega) ?_
    repeat (first | refine g_endt ?_ | refine g_end ?_ | refine g_then ?_ | refine g_in_normal ?_ | refine g_then_ret ?_ | refine g_in_ret ?_ | refine g_then_exit ?_ | refine g_in_exit rfl ?_ | refine g_in_exit_ne (by decide) ?_ | refine g_seq ?_ | refine g_region ?_ | refine g_block ?_ | refine g_ret ?_ | refine g_return_n ?_ | refine g_exit ?_ | refine g_skip ?_)
    exact ret1 (K := [SetATE p (ys.take i ++ x :: ys.drop i)]) rfl (resT rfl) ⟨i, false, rfl, rfl, hk⟩
end Go.Proofs.Ytdpbjoldgiikkaa
/- An ordered set's functions, for one type of members: made. -/
namespace Go.Proofs.Ytdpbjoldgiikkaa
open Go Go.Sl
attribute [local irreducible] Code.wpIn roundPost bodyPostM runL Ret Meets Begin

theorem NilTE_set (p : Nat) {w0 : World} {A : SProp} {L M : List SProp} {Φ : World → Prop} [tk : Take1 L (cellsB p #[.slice none 0 0, .bool false] 123) M] (h : G w0 A (SetATE p [] :: M) Φ) : G w0 A L Φ :=
  G.perm tk.perm (G.nil_slice (α := PgTE) 101 PgTE.enc 13 (shutFTE p [] none 0 rfl (M := M) (tk := ⟨List.Perm.swap _ _ _⟩) h))
theorem NewTE_spec : Ctr Try.prog 78 [.slice none 0 0] [] (fun v M => ∃ p, v = .pointer (some ⟨p, 0, none⟩) ∧ M = [SetATE p []]) := by
  refine spec_of Try.func78 rfl Try.ntmps78 rfl fun w0 F => ?_
  repeat (first | refine g_endt ?_ | refine g_end ?_ | refine g_then ?_ | refine g_in_normal ?_ | refine g_then_ret ?_ | refine g_in_ret ?_ | refine g_then_exit ?_ | refine g_in_exit rfl ?_ | refine g_in_exit_ne (by decide) ?_ | refine g_seq ?_ | refine g_region ?_ | refine g_block ?_ | refine g_ret ?_ | refine g_return_n ?_ | refine g_exit ?_ | refine g_skip ?_)
  refine o_assign ?_
  first | refine g_endt ?_ | refine g_end ?_
  repeat (first | refine g_endt ?_ | refine g_end ?_ | refine g_then ?_ | refine g_in_normal ?_ | refine g_then_ret ?_ | refine g_in_ret ?_ | refine g_then_exit ?_ | refine g_in_exit rfl ?_ | refine g_in_exit_ne (by decide) ?_ | refine g_seq ?_ | refine g_region ?_ | refine g_block ?_ | refine g_ret ?_ | refine g_return_n ?_ | refine g_exit ?_ | refine g_skip ?_)
  refine o_build (.agg #[.slice none 0 0, .bool false]) (fun w => by kernel_rfl) ?_
  refine o_boxc #[.slice none 0 0, .bool false] rfl rfl fun p => ?_
  refine NilTE_set p ?_
  refine o_assign ?_
  refine g_endt ?_
  repeat (first | refine g_endt ?_ | refine g_end ?_ | refine g_then ?_ | refine g_in_normal ?_ | refine g_then_ret ?_ | refine g_in_ret ?_ | refine g_then_exit ?_ | refine g_in_exit rfl ?_ | refine g_in_exit_ne (by decide) ?_ | refine g_seq ?_ | refine g_region ?_ | refine g_block ?_ | refine g_ret ?_ | refine g_return_n ?_ | refine g_exit ?_ | refine g_skip ?_)
  refine o_move ?_
  refine o_len rfl rfl ?_
  refine o_move ?_
  first | refine g_endt ?_ | refine g_end ?_
  repeat (first | refine g_endt ?_ | refine g_end ?_ | refine g_then ?_ | refine g_in_normal ?_ | refine g_then_ret ?_ | refine g_in_ret ?_ | refine g_then_exit ?_ | refine g_in_exit rfl ?_ | refine g_in_exit_ne (by decide) ?_ | refine g_seq ?_ | refine g_region ?_ | refine g_block ?_ | refine g_ret ?_ | refine g_return_n ?_ | refine g_exit ?_ | refine g_skip ?_)
  refine g_loop (σ := Unit) (S := fun _ => [(3, .pointer (some ⟨p, 0, none⟩)), (9, .int .i64 0), (10, .int .i64 0)]) (H := fun _ => [SetATE p []]) (μ := fun _ => 0) (s0 := ()) (Sat.mem ⟨rfl, rfl, rfl, trivial⟩) ?_
  rintro _ ρ'
  repeat (first | refine g_endt ?_ | refine g_end ?_ | refine g_then ?_ | refine g_in_normal ?_ | refine g_then_ret ?_ | refine g_in_ret ?_ | refine g_then_exit ?_ | refine g_in_exit rfl ?_ | refine g_in_exit_ne (by decide) ?_ | refine g_seq ?_ | refine g_region ?_ | refine g_block ?_ | refine g_ret ?_ | refine g_return_n ?_ | refine g_exit ?_ | refine g_skip ?_)
  refine o_lss rfl rfl ?_
  first | refine g_endt ?_ | refine g_end ?_
  first | refine g_seq (g_cond_f rfl (rfl) ?_) | refine g_cond_f rfl (rfl) ?_
  repeat (first | refine g_endt ?_ | refine g_end ?_ | refine g_then ?_ | refine g_in_normal ?_ | refine g_then_ret ?_ | refine g_in_ret ?_ | refine g_then_exit ?_ | refine g_in_exit rfl ?_ | refine g_in_exit_ne (by decide) ?_ | refine g_seq ?_ | refine g_region ?_ | refine g_block ?_ | refine g_ret ?_ | refine g_return_n ?_ | refine g_exit ?_ | refine g_skip ?_)
  refine o_move ?_
  refine o_assign ?_
  first | refine g_endt ?_ | refine g_end ?_
  repeat (first | refine g_endt ?_ | refine g_end ?_ | refine g_then ?_ | refine g_in_normal ?_ | refine g_then_ret ?_ | refine g_in_ret ?_ | refine g_then_exit ?_ | refine g_in_exit rfl ?_ | refine g_in_exit_ne (by decide) ?_ | refine g_seq ?_ | refine g_region ?_ | refine g_block ?_ | refine g_ret ?_ | refine g_return_n ?_ | refine g_exit ?_ | refine g_skip ?_)
  exact ret1 rfl (resT rfl) ⟨p, rfl, rfl⟩
end Go.Proofs.Ytdpbjoldgiikkaa
/- An ordered set's functions, for one type of members: Drop, Get, At, Len. -/
namespace Go.Proofs.Ytdpbjoldgiikkaa
open Go Go.Sl
attribute [local irreducible] Code.wpIn roundPost bodyPostM runL Ret Meets Begin

theorem shiftTE (ys : List PgTE) (k i : Nat) (y : PgTE) (hk : k ≤ i) (hi : i + 1 < ys.length) (hy : ys[i + 1]? = some y) : ((ys.eraseIdx k).take i ++ ys.drop i).set i y = (ys.eraseIdx k).take (i + 1) ++ ys.drop (i + 1) := by
  have hle : (ys.eraseIdx k).length = ys.length - 1 := by rw [List.length_eraseIdx]; split <;> omega
  have h1 : ((ys.eraseIdx k).take i).length = i := by simp [hle]; omega
  have h2 : ys.drop i = ys[i] :: ys.drop (i + 1) := List.drop_eq_getElem_cons (by omega)
  have h3 : (ys.eraseIdx k)[i]? = some y := by rw [List.getElem?_eraseIdx, if_neg (by omega), hy]
  rw [List.set_append_right _ _ (by omega), h1, Nat.sub_self, h2, List.set_cons_zero, take_snocPTE _ i y h3]
  simp
theorem DropTE_spec (p : Nat) (ys : List PgTE) (x : PgTE) (hs : Srt PgTE.cmp ys) (hl : ys.length < 1000000000) : Ctr Try.prog 82 [.pointer (some ⟨p, 0, none⟩), x.val] [SetATE p ys]
    (fun v M => ∃ (k : Nat) (there : Bool), v = .bool there ∧ M = [SetATE p (cond there (ys.eraseIdx k) ys)] ∧ FindR PgTE.cmp ys x k there) := by
  refine spec_of Try.func82 rfl Try.ntmps82 rfl fun w0 F => ?_
  repeat (first | refine g_endt ?_ | refine g_end ?_ | refine g_then ?_ | refine g_in_normal ?_ | refine g_then_ret ?_ | refine g_in_ret ?_ | refine g_then_exit ?_ | refine g_in_exit rfl ?_ | refine g_in_exit_ne (by decide) ?_ | refine g_seq ?_ | refine g_region ?_ | refine g_block ?_ | refine g_ret ?_ | refine g_return_n ?_ | refine g_exit ?_ | refine g_skip ?_)
  refine o_boxc x.val.cells rfl rfl fun q => ?_
  refine o_assign ?_
  first | refine g_endt ?_ | refine g_end ?_
  repeat (first | refine g_endt ?_ | refine g_end ?_ | refine g_then ?_ | refine g_in_normal ?_ | refine g_then_ret ?_ | refine g_in_ret ?_ | refine g_then_exit ?_ | refine g_in_exit rfl ?_ | refine g_in_exit_ne (by decide) ?_ | refine g_seq ?_ | refine g_region ?_ | refine g_block ?_ | refine g_ret ?_ | refine g_return_n ?_ | refine g_exit ?_ | refine g_skip ?_)
  refine o_move ?_
  refine o_peql rfl ?_
  first | refine g_endt ?_ | refine g_end ?_
  first | refine g_seq (g_cond_f rfl (rfl) ?_) | refine g_cond_f rfl (rfl) ?_
  repeat (first | refine g_endt ?_ | refine g_end ?_ | refine g_then ?_ | refine g_in_normal ?_ | refine g_then_ret ?_ | refine g_in_ret ?_ | refine g_then_exit ?_ | refine g_in_exit rfl ?_ | refine g_in_exit_ne (by decide) ?_ | refine g_seq ?_ | refine g_region ?_ | refine g_block ?_ | refine g_ret ?_ | refine g_return_n ?_ | refine g_exit ?_ | refine g_skip ?_)
  refine o_move ?_
  refine o_loadN (v := x.val) rfl rfl rfl ?_
  refine o_call (findTE_spec p ys x hs (by omega)) rfl rfl ?_
  rintro _ _ ⟨k, there, rfl, rfl, hk⟩
  refine o_move ?_
  refine o_extract rfl rfl ?_
  refine o_extract rfl rfl ?_
  refine o_assign ?_
  refine o_assign ?_
  first | refine g_endt ?_ | refine g_end ?_
  repeat (first | refine g_endt ?_ | refine g_end ?_ | refine g_then ?_ | refine g_in_normal ?_ | refine g_then_ret ?_ | refine g_in_ret ?_ | refine g_then_exit ?_ | refine g_in_exit rfl ?_ | refine g_in_exit_ne (by decide) ?_ | refine g_seq ?_ | refine g_region ?_ | refine g_block ?_ | refine g_ret ?_ | refine g_return_n ?_ | refine g_exit ?_ | refine g_skip ?_)
  refine o_move ?_
  refine o_not rfl ?_
  refine g_endt ?_
  cases there
  case false =>
    first | refine g_seq (g_cond_t rfl (rfl) ?_) | refine g_cond_t rfl (rfl) ?_
    repeat (first | refine g_endt ?_ | refine g_end ?_ | refine g_then ?_ | refine g_in_normal ?_ | refine g_then_ret ?_ | refine g_in_ret ?_ | refine g_then_exit ?_ | refine g_in_exit rfl ?_ | refine g_in_exit_ne (by decide) ?_ | refine g_seq ?_ | refine g_region ?_ | refine g_block ?_ | refine g_ret ?_ | refine g_return_n ?_ | refine g_exit ?_ | refine g_skip ?_)
    refine o_assign ?_
    first | refine g_endt ?_ | refine g_end ?_
    repeat (first | refine g_endt ?_ | refine g_end ?_ | refine g_then ?_ | refine g_in_normal ?_ | refine g_then_ret ?_ | refine g_in_ret ?_ | refine g_then_exit ?_ | refine g_in_exit rfl ?_ | refine g_in_exit_ne (by decide) ?_ | refine g_seq ?_ | refine g_region ?_ | refine g_block ?_ | refine g_ret ?_ | refine g_return_n ?_ | refine g_exit ?_ | refine g_skip ?_)
    exact ret1 (K := [SetATE p ys]) rfl (resT rfl) ⟨k, false, rfl, rfl, hk⟩
  first | refine g_seq (g_cond_f rfl (rfl) ?_) | refine g_cond_f rfl (rfl) ?_
  have hk1 : k < ys.length := by
    obtain ⟨y, hy, _⟩ := hk.2.1 rfl
    exact (List.getElem?_eq_some_iff.1 hy).1
  repeat (first | refine g_endt ?_ | refine g_end ?_ | refine g_then ?_ | refine g_in_normal ?_ | refine g_then_ret ?_ | refine g_in_ret ?_ | refine g_then_exit ?_ | refine g_in_exit rfl ?_ | refine g_in_exit_ne (by decide) ?_ | refine g_seq ?_ | refine g_region ?_ | refine g_block ?_ | refine g_ret ?_ | refine g_return_n ?_ | refine g_exit ?_ | refine g_skip ?_)
  refine o_move ?_
  refine o_call (ownTE_spec p ys (by omega)) rfl rfl ?_
  rintro _ _ ⟨S, c, rfl⟩
  refine g_endt ?_
  repeat (first | refine g_endt ?_ | refine g_end ?_ | refine g_then ?_ | refine g_in_normal ?_ | refine g_then_ret ?_ | refine g_in_ret ?_ | refine g_then_exit ?_ | refine g_in_exit rfl ?_ | refine g_in_exit_ne (by decide) ?_ | refine g_seq ?_ | refine g_region ?_ | refine g_block ?_ | refine g_ret ?_ | refine g_return_n ?_ | refine g_exit ?_ | refine g_skip ?_)
  refine o_move ?_
  refine o_assign ?_
  first | refine g_endt ?_ | refine g_end ?_
  repeat (first | refine g_endt ?_ | refine g_end ?_ | refine g_then ?_ | refine g_in_normal ?_ | refine g_then_ret ?_ | refine g_in_ret ?_ | refine g_then_exit ?_ | refine g_in_exit rfl ?_ | refine g_in_exit_ne (by decide) ?_ | refine g_seq ?_ | refine g_region ?_ | refine g_block ?_ | refine g_ret ?_ | refine g_return_n ?_ | refine g_exit ?_ | refine g_skip ?_)
  have h0 : (ys.eraseIdx k).take k ++ ys.drop k = ys := by
    rw [List.eraseIdx_eq_take_drop_succ, List.take_append_of_le_length (by simp; omega), List.take_take, Nat.min_self, List.take_append_drop]
  refine g_loop (σ := {i : Nat // k ≤ i ∧ i + 1 ≤ ys.length})
    (S := fun i => [(0, .pointer (some ⟨p, 0, none⟩)), (7, .int .i64 (i.1 : Int))])
    (H := fun i => [cellsB p #[.slice S ys.length c, .bool false] 123, osl 101 PgTE.enc 13 S c ((ys.eraseIdx k).take i.1 ++ ys.drop i.1)]) (μ := fun i => ys.length - i.1)
    (s0 := ⟨k, Nat.le_refl _, hk1⟩) (Sat.mem ⟨rfl, rfl, trivial⟩) (t := by simp only [h0]; infer_instance) ?_
  rintro ⟨i, h1, h2⟩ ρ'
  dsimp only at h1 h2 ⊢
  have hle : (ys.eraseIdx k).length = ys.length - 1 := by rw [List.length_eraseIdx, if_pos hk1]
  have hlen : ((ys.eraseIdx k).take i ++ ys.drop i).length = ys.length := by simp [hle]; omega
  repeat (first | refine g_endt ?_ | refine g_end ?_ | refine g_then ?_ | refine g_in_normal ?_ | refine g_then_ret ?_ | refine g_in_ret ?_ | refine g_then_exit ?_ | refine g_in_exit rfl ?_ | refine g_in_exit_ne (by decide) ?_ | refine g_seq ?_ | refine g_region ?_ | refine g_block ?_ | refine g_ret ?_ | refine g_return_n ?_ | refine g_exit ?_ | refine g_skip ?_)
  refine o_move ?_
  refine o_add (c := ((i + 1 : Nat) : Int)) rfl rfl (by omega) (by omega) (by omega) ?_
  refine o_move ?_
  refine o_nil rfl ?_
  refine o_field rfl ?_
  refine o_load1 (v := .slice S ys.length c) rfl rfl ?_
  refine o_len rfl rfl ?_
  refine o_lss rfl rfl ?_
  refine g_endt ?_
  by_cases h : i + 1 < ys.length
  · first | refine g_seq (g_cond_t rfl (by simp; omega) ?_) | refine g_cond_t rfl (by simp; omega) ?_
    repeat (first | refine g_endt ?_ | refine g_end ?_ | refine g_then ?_ | refine g_in_normal ?_ | refine g_then_ret ?_ | refine g_in_ret ?_ | refine g_then_exit ?_ | refine g_in_exit rfl ?_ | refine g_in_exit_ne (by decide) ?_ | refine g_seq ?_ | refine g_region ?_ | refine g_block ?_ | refine g_ret ?_ | refine g_return_n ?_ | refine g_exit ?_ | refine g_skip ?_)
    obtain ⟨y, hy⟩ : ∃ y, ys[i + 1]? = some y := ⟨_, List.getElem?_eq_getElem h⟩
    have hz : ((ys.eraseIdx k).take i ++ ys.drop i)[i + 1]? = some y := by
      have h3 : ((ys.eraseIdx k).take i).length = i := by simp [hle]; omega
      rw [List.getElem?_append_right (by omega), h3, List.getElem?_drop, show i + (i + 1 - i) = i + 1 by omega, hy]
    refine g_draw [14] [0,1,2,3,4,5,6,7,8,9,10,11,12,13,14] [cellsB p #[.slice S ys.length c, .bool false] 123, osl 101 PgTE.enc 13 S c ((ys.eraseIdx k).take i ++ ys.drop i)] mixed rfl ?_
    refine ob_q rfl rfl ⟨_, fun X Q h => o_move (g_end (h _ _ ⟨rfl, rfl⟩)), ?_⟩
    refine ob_q rfl rfl ⟨_, fun X Q h => o_nil rfl (g_end (h _ _ ⟨rfl, rfl⟩)), ?_⟩
    refine ob_q rfl rfl ⟨_, fun X Q h => o_field rfl (g_end (h _ _ ⟨rfl, rfl⟩)), ?_⟩
    refine ob_q rfl rfl ⟨_, fun X Q h => o_load1 (v := .slice S ys.length c) rfl rfl (g_end (h _ _ ⟨rfl, rfl⟩)), ?_⟩
    refine ob_q rfl rfl ⟨_, fun X Q h => o_move (g_end (h _ _ ⟨rfl, rfl⟩)), ?_⟩
    refine ob_q rfl rfl ⟨_, fun X Q h => o_move (g_end (h _ _ ⟨rfl, rfl⟩)), ?_⟩
    refine ob_q rfl rfl ⟨_, fun X Q h => o_nil rfl (g_end (h _ _ ⟨rfl, rfl⟩)), ?_⟩
    refine ob_q rfl rfl ⟨_, fun X Q h => o_field rfl (g_end (h _ _ ⟨rfl, rfl⟩)), ?_⟩
    refine ob_q rfl rfl ⟨_, fun X Q h => o_load1 (v := .slice S ys.length c) rfl rfl (g_end (h _ _ ⟨rfl, rfl⟩)), ?_⟩
    refine ob_q rfl rfl ⟨_, fun X Q h => o_move (g_end (h _ _ ⟨rfl, rfl⟩)), ?_⟩
    refine ob_q rfl rfl ⟨_, fun X Q h => o_add (c := ((i + 1 : Nat) : Int)) rfl rfl (by omega) (by omega) (by omega) (g_end (h _ _ ⟨rfl, rfl⟩)), ?_⟩
    refine ob_q rfl rfl ⟨_, fun X Q h => o_indexR (i := i + 1) rfl rfl rfl (by omega) hlen rfl (g_end (h _ _ ⟨rfl, rfl⟩)), ?_⟩
    refine ob_q rfl rfl ⟨_, fun X Q h => o_loadE (enc := PgTE.enc) rfl rfl hz (g_end (h _ _ ⟨rfl, rfl⟩)), ?_⟩
    refine ob_q rfl rfl ⟨_, fun X Q h => o_indexR (i := i) rfl rfl rfl (by omega) hlen rfl (g_end (h _ _ ⟨rfl, rfl⟩)), ?_⟩
    refine ob_s ([]) rfl rfl rfl fun Qz hz => o_storeE (e := 101) (c := c) (v := y.val) (z := y) (i := i) (enc := PgTE.enc) (xs := (ys.eraseIdx k).take i ++ ys.drop i) rfl rfl rfl rfl (by omega) <| g_end (hz _ _ ⟨_, ob_fin, ?_⟩)
    clear hz Qz
    refine ob_nil ?_
    rw [shiftTE ys k i y h1 h hy]
    repeat (first | refine g_endt ?_ | refine g_end ?_ | refine g_then ?_ | refine g_in_normal ?_ | refine g_then_ret ?_ | refine g_in_ret ?_ | refine g_then_exit ?_ | refine g_in_exit rfl ?_ | refine g_in_exit_ne (by decide) ?_ | refine g_seq ?_ | refine g_region ?_ | refine g_block ?_ | refine g_ret ?_ | refine g_return_n ?_ | refine g_exit ?_ | refine g_skip ?_)
    refine o_move ?_
    refine o_add (c := ((i + 1 : Nat) : Int)) rfl rfl (by omega) (by omega) (by omega) ?_
    refine o_assign ?_
    refine g_endt ?_
    repeat (first | refine g_endt ?_ | refine g_end ?_ | refine g_then ?_ | refine g_in_normal ?_ | refine g_then_ret ?_ | refine g_in_ret ?_ | refine g_then_exit ?_ | refine g_in_exit rfl ?_ | refine g_in_exit_ne (by decide) ?_ | refine g_seq ?_ | refine g_region ?_ | refine g_block ?_ | refine g_ret ?_ | refine g_return_n ?_ | refine g_exit ?_ | refine g_skip ?_)
    exact g_meets ⟨i + 1, by omega, by omega⟩ (by show ys.length - (i + 1) < ys.length - i; omega) (Sat.mem ⟨rfl, rfl, trivial⟩)
  · first | refine g_seq (g_cond_f rfl (by simp; omega) ?_) | refine g_cond_f rfl (by simp; omega) ?_
    repeat (first | refine g_endt ?_ | refine g_end ?_ | refine g_then ?_ | refine g_in_normal ?_ | refine g_then_ret ?_ | refine g_in_ret ?_ | refine g_then_exit ?_ | refine g_in_exit rfl ?_ | refine g_in_exit_ne (by decide) ?_ | refine g_seq ?_ | refine g_region ?_ | refine g_block ?_ | refine g_ret ?_ | refine g_return_n ?_ | refine g_exit ?_ | refine g_skip ?_)
    refine g_draw [14] [0,1,2,3,4,5,6,7,8,9,10,11,12,13,14] [cellsB p #[.slice S ys.length c, .bool false] 123, osl 101 PgTE.enc 13 S c ((ys.eraseIdx k).take i ++ ys.drop i)] mixed rfl ?_
    refine ob_q rfl rfl ⟨_, fun X Q h => o_move (g_end (h _ _ ⟨rfl, rfl⟩)), ?_⟩
    refine ob_q rfl rfl ⟨_, fun X Q h => o_move (g_end (h _ _ ⟨rfl, rfl⟩)), ?_⟩
    refine ob_q rfl rfl ⟨_, fun X Q h => o_nil rfl (g_end (h _ _ ⟨rfl, rfl⟩)), ?_⟩
    refine ob_q rfl rfl ⟨_, fun X Q h => o_field rfl (g_end (h _ _ ⟨rfl, rfl⟩)), ?_⟩
    refine ob_q rfl rfl ⟨_, fun X Q h => o_load1 (v := .slice S ys.length c) rfl rfl (g_end (h _ _ ⟨rfl, rfl⟩)), ?_⟩
    refine ob_q rfl rfl ⟨_, fun X Q h => o_move (g_end (h _ _ ⟨rfl, rfl⟩)), ?_⟩
    refine ob_q rfl rfl ⟨_, fun X Q h => o_nil rfl (g_end (h _ _ ⟨rfl, rfl⟩)), ?_⟩
    refine ob_q rfl rfl ⟨_, fun X Q h => o_field rfl (g_end (h _ _ ⟨rfl, rfl⟩)), ?_⟩
    refine ob_q rfl rfl ⟨_, fun X Q h => o_load1 (v := .slice S ys.length c) rfl rfl (g_end (h _ _ ⟨rfl, rfl⟩)), ?_⟩
    refine ob_q rfl rfl ⟨_, fun X Q h => o_len rfl rfl (g_end (h _ _ ⟨rfl, rfl⟩)), ?_⟩
    refine ob_q rfl rfl ⟨_, fun X Q h => o_sub (c := ((ys.length - 1 : Nat) : Int)) rfl rfl (by omega) (by omega) (by omega) (g_end (h _ _ ⟨rfl, rfl⟩)), ?_⟩
    refine ob_q rfl rfl ⟨_, fun X Q h => o_uptoR (e := 101) (enc := PgTE.enc) (sz := 13) (c := c) (k := ys.length - 1) (xs := (ys.eraseIdx k).take i ++ ys.drop i) rfl rfl rfl hlen (by omega) (g_end (h _ _ ⟨rfl, rfl⟩)), ?_⟩
    refine ob_q rfl rfl ⟨_, fun X Q h => o_nil rfl (g_end (h _ _ ⟨rfl, rfl⟩)), ?_⟩
    refine ob_q rfl rfl ⟨_, fun X Q h => o_field rfl (g_end (h _ _ ⟨rfl, rfl⟩)), ?_⟩
    refine ob_s ([]) rfl rfl rfl fun Qz hz => o_store (v := .slice S (ys.length - 1) c) rfl rfl rfl rfl rfl <| g_end (hz _ _ ⟨_, ob_fin, ?_⟩)
    clear hz Qz
    refine ob_nil ?_
    refine G.norm p #[.slice S (ys.length - 1) c, .bool false] rfl ?_
    refine G.shorten (e := 101) (enc := PgTE.enc) (sz := 13) (S := S) (c := c) (xs := (ys.eraseIdx k).take i ++ ys.drop i) (ys.length - 1) (by omega) ?_
    have he : ((ys.eraseIdx k).take i ++ ys.drop i).take (ys.length - 1) = ys.eraseIdx k := by
      have h3 : ((ys.eraseIdx k).take i).length = ys.length - 1 := by simp [hle]; omega
      rw [List.take_append_of_le_length (by omega), List.take_of_length_le (by omega), List.take_of_length_le (by omega)]
    rw [he]
    repeat (first | refine g_endt ?_ | refine g_end ?_ | refine g_then ?_ | refine g_in_normal ?_ | refine g_then_ret ?_ | refine g_in_ret ?_ | refine g_then_exit ?_ | refine g_in_exit rfl ?_ | refine g_in_exit_ne (by decide) ?_ | refine g_seq ?_ | refine g_region ?_ | refine g_block ?_ | refine g_ret ?_ | refine g_return_n ?_ | refine g_exit ?_ | refine g_skip ?_)
    refine o_assign ?_
    first | refine g_endt ?_ | refine g_end ?_
    refine shutFTE p (ys.eraseIdx k) S c (len := ys.length - 1) hle ?_
    repeat (first | refine g_endt ?_ | refine g_end ?_ | refine g_then ?_ | refine g_in_normal ?_ | refine g_then_ret ?_ | refine g_in_ret ?_ | refine g_then_exit ?_ | refine g_in_exit rfl ?_ | refine g_in_exit_ne (by decide) ?_ | refine g_seq ?_ | refine g_region ?_ | refine g_block ?_ | refine g_ret ?_ | refine g_return_n ?_ | refine g_exit ?_ | refine g_skip ?_)
    exact ret1 (K := [SetATE p (ys.eraseIdx k)]) rfl (resT rfl) ⟨k, true, rfl, rfl, hk⟩
end Go.Proofs.Ytdpbjoldgiikkaa
/- An ordered set's functions, for one type of members: asked. -/
namespace Go.Proofs.Ytdpbjoldgiikkaa
open Go Go.Sl
attribute [local irreducible] Code.wpIn roundPost bodyPostM runL Ret Meets Begin

/-- What Get tells. -/
def GetRTE (ys : List PgTE) (x : PgTE) (o : Option PgTE) : Prop := match o with
  | some y => ∃ k, FindR PgTE.cmp ys x k true ∧ ys[k]? = some y
  | none => ∃ k, FindR PgTE.cmp ys x k false
theorem GetTE_spec (p : Nat) (ys : List PgTE) (x : PgTE) (hs : Srt PgTE.cmp ys) (hl : ys.length < 1000000000) : Ctr Try.prog 74 [.pointer (some ⟨p, 0, none⟩), x.val] [SetATE p ys]
    (fun v M => ∃ (o : Option PgTE), v = .tuple #[(o.getD PgTE.zero).val, .bool o.isSome] ∧ M = [SetATE p ys] ∧ GetRTE ys x o) := by
  refine spec_of Try.func74 rfl Try.ntmps74 rfl fun w0 F => ?_
  repeat (first | refine g_endt ?_ | refine g_end ?_ | refine g_then ?_ | refine g_in_normal ?_ | refine g_then_ret ?_ | refine g_in_ret ?_ | refine g_then_exit ?_ | refine g_in_exit rfl ?_ | refine g_in_exit_ne (by decide) ?_ | refine g_seq ?_ | refine g_region ?_ | refine g_block ?_ | refine g_ret ?_ | refine g_return_n ?_ | refine g_exit ?_ | refine g_skip ?_)
  refine o_boxc x.val.cells rfl rfl fun q => ?_
  refine o_alloc fun r => ?_
  refine o_assign ?_
  first | refine g_endt ?_ | refine g_end ?_
  repeat (first | refine g_endt ?_ | refine g_end ?_ | refine g_then ?_ | refine g_in_normal ?_ | refine g_then_ret ?_ | refine g_in_ret ?_ | refine g_then_exit ?_ | refine g_in_exit rfl ?_ | refine g_in_exit_ne (by decide) ?_ | refine g_seq ?_ | refine g_region ?_ | refine g_block ?_ | refine g_ret ?_ | refine g_return_n ?_ | refine g_exit ?_ | refine g_skip ?_)
  refine o_alloc fun z => ?_
  refine g_endt ?_
  repeat (first | refine g_endt ?_ | refine g_end ?_ | refine g_then ?_ | refine g_in_normal ?_ | refine g_then_ret ?_ | refine g_in_ret ?_ | refine g_then_exit ?_ | refine g_in_exit rfl ?_ | refine g_in_exit_ne (by decide) ?_ | refine g_seq ?_ | refine g_region ?_ | refine g_block ?_ | refine g_ret ?_ | refine g_return_n ?_ | refine g_exit ?_ | refine g_skip ?_)
  refine o_move ?_
  refine o_peql rfl ?_
  first | refine g_endt ?_ | refine g_end ?_
  first | refine g_seq (g_cond_f rfl (rfl) ?_) | refine g_cond_f rfl (rfl) ?_
  repeat (first | refine g_endt ?_ | refine g_end ?_ | refine g_then ?_ | refine g_in_normal ?_ | refine g_then_ret ?_ | refine g_in_ret ?_ | refine g_then_exit ?_ | refine g_in_exit rfl ?_ | refine g_in_exit_ne (by decide) ?_ | refine g_seq ?_ | refine g_region ?_ | refine g_block ?_ | refine g_ret ?_ | refine g_return_n ?_ | refine g_exit ?_ | refine g_skip ?_)
  refine o_move ?_
  refine o_loadN (v := x.val) rfl rfl rfl ?_
  refine o_call (findTE_spec p ys x hs (by omega)) rfl rfl ?_
  rintro _ _ ⟨k, there, rfl, rfl, hk⟩
  refine o_move ?_
  refine o_extract rfl rfl ?_
  refine o_extract rfl rfl ?_
  refine o_assign ?_
  refine o_assign ?_
  first | refine g_endt ?_ | refine g_end ?_
  repeat (first | refine g_endt ?_ | refine g_end ?_ | refine g_then ?_ | refine g_in_normal ?_ | refine g_then_ret ?_ | refine g_in_ret ?_ | refine g_then_exit ?_ | refine g_in_exit rfl ?_ | refine g_in_exit_ne (by decide) ?_ | refine g_seq ?_ | refine g_region ?_ | refine g_block ?_ | refine g_ret ?_ | refine g_return_n ?_ | refine g_exit ?_ | refine g_skip ?_)
  refine o_move ?_
  refine o_not rfl ?_
  refine g_endt ?_
  cases there
  case false =>
    first | refine g_seq (g_cond_t rfl (rfl) ?_) | refine g_cond_t rfl (rfl) ?_
    repeat (first | refine g_endt ?_ | refine g_end ?_ | refine g_then ?_ | refine g_in_normal ?_ | refine g_then_ret ?_ | refine g_in_ret ?_ | refine g_then_exit ?_ | refine g_in_exit rfl ?_ | refine g_in_exit_ne (by decide) ?_ | refine g_seq ?_ | refine g_region ?_ | refine g_block ?_ | refine g_ret ?_ | refine g_return_n ?_ | refine g_exit ?_ | refine g_skip ?_)
    refine o_loadN (v := PgTE.zero.val) rfl rfl rfl ?_
    refine o_store (v := PgTE.zero.val) rfl rfl rfl rfl rfl ?_
    refine o_assign ?_
    first | refine g_endt ?_ | refine g_end ?_
    refine G.norm r PgTE.zero.val.cells rfl ?_
    repeat (first | refine g_endt ?_ | refine g_end ?_ | refine g_then ?_ | refine g_in_normal ?_ | refine g_then_ret ?_ | refine g_in_ret ?_ | refine g_then_exit ?_ | refine g_in_exit rfl ?_ | refine g_in_exit_ne (by decide) ?_ | refine g_seq ?_ | refine g_region ?_ | refine g_block ?_ | refine g_ret ?_ | refine g_return_n ?_ | refine g_exit ?_ | refine g_skip ?_)
    exact ret2 (K := [SetATE p ys]) rfl (resCN (v := PgTE.zero.val) rfl rfl rfl) (resT rfl) ⟨none, rfl, rfl, k, hk⟩
  first | refine g_seq (g_cond_f rfl (rfl) ?_) | refine g_cond_f rfl (rfl) ?_
  obtain ⟨y, hy, hc⟩ := hk.2.1 rfl
  have hk1 : k < ys.length := (List.getElem?_eq_some_iff.1 hy).1
  repeat (first | refine g_endt ?_ | refine g_end ?_ | refine g_then ?_ | refine g_in_normal ?_ | refine g_then_ret ?_ | refine g_in_ret ?_ | refine g_then_exit ?_ | refine g_in_exit rfl ?_ | refine g_in_exit_ne (by decide) ?_ | refine g_seq ?_ | refine g_region ?_ | refine g_block ?_ | refine g_ret ?_ | refine g_return_n ?_ | refine g_exit ?_ | refine g_skip ?_)
  refine openTE p ys fun S c b => ?_
  refine o_move ?_
  refine o_nil rfl ?_
  refine o_field rfl ?_
  refine o_load1 (v := .slice S ys.length c) rfl rfl ?_
  refine o_move ?_
  refine o_indexR (ys := ys) (i := k) rfl rfl rfl hk1 rfl rfl ?_
  refine o_loadE (ys := ys) rfl rfl hy ?_
  refine o_store (v := y.val) rfl rfl rfl rfl rfl ?_
  refine o_assign ?_
  first | refine g_endt ?_ | refine g_end ?_
  refine G.norm r y.val.cells rfl ?_
  refine shutTE p ys S c b rfl ?_
  repeat (first | refine g_endt ?_ | refine g_end ?_ | refine g_then ?_ | refine g_in_normal ?_ | refine g_then_ret ?_ | refine g_in_ret ?_ | refine g_then_exit ?_ | refine g_in_exit rfl ?_ | refine g_in_exit_ne (by decide) ?_ | refine g_seq ?_ | refine g_region ?_ | refine g_block ?_ | refine g_ret ?_ | refine g_return_n ?_ | refine g_exit ?_ | refine g_skip ?_)
  exact ret2 (K := [SetATE p ys]) rfl (resCN (v := y.val) rfl rfl rfl) (resT rfl) ⟨some y, rfl, rfl, k, hk, hy⟩
end Go.Proofs.Ytdpbjoldgiikkaa
/- An ordered map's functions, for one type of keys and one of values: made, put. -/
namespace Go.Proofs.Ytdpbjoldgiikkaa
open Go Go.Sl
attribute [local irreducible] Code.wpIn roundPost bodyPostM runL Ret Meets Begin

theorem GetMTE_spec (p : Nat) (ys : List PgTE) (x : PgTE) (hs : Srt PgTE.cmp ys) (hl : ys.length < 1000000000) : Ctr Try.prog 74 [.pointer (some ⟨p, 0, none⟩), x.val] [SetATE p ys]
    (fun v M => v = .tuple #[((getM PgTE.cmp ys x).getD PgTE.zero).val, .bool (getM PgTE.cmp ys x).isSome] ∧ M = [SetATE p ys]) := (GetTE_spec p ys x hs hl).mono fun v M ⟨o, h1, h2, h3⟩ => by
  have : getM PgTE.cmp ys x = o := by
    cases o with
    | none => obtain ⟨k, hk⟩ := h3; exact getM_none hk
    | some y => obtain ⟨k, hk, hy⟩ := h3; exact getM_some PgTE.lin hs hk hy
  rw [this]
  exact ⟨h1, h2⟩
def MapATE (m : Nat) (ys : List PgTE) : SProp := ex fun p : Nat => sl [cellsB m #[.pointer (some ⟨p, 0, none⟩)] 98, SetATE p ys]
section
variable {w0 : World} {A : SProp} {L M : List SProp} {Φ : World → Prop}
theorem openMTE (m : Nat) (ys : List PgTE) [tk : Take1 L (MapATE m ys) M] (h : ∀ p, G w0 A (SetATE p ys :: cellsB m #[.pointer (some ⟨p, 0, none⟩)] 98 :: M) Φ) : G w0 A L Φ :=
  G.perm tk.perm (G.ex fun p => G.open_sl (G.perm (List.Perm.swap _ _ _) (h p)))
theorem shutMTE (m p : Nat) (ys : List PgTE) [tk : Take L [cellsB m #[.pointer (some ⟨p, 0, none⟩)] 98, SetATE p ys] M] (h : G w0 A (MapATE m ys :: M) Φ) : G w0 A L Φ :=
  G.perm tk.perm (G.ent ((sl_append_to _ M).trans (Ent.star (show Ent _ (MapATE m ys) from fun _ _ x => ⟨p, x⟩) (Ent.refl _))) h)
end
theorem MapATE_of (m p : Nat) (ys : List PgTE) {L M : List SProp} [tk : Take1 L (MapATE m ys) M] : Ent (sl (SetATE p ys :: cellsB m #[.pointer (some ⟨p, 0, none⟩)] 98 :: M)) (sl L) := by
  refine Ent.trans ?_ (sl_perm tk.perm.symm)
  refine (sl_perm (List.Perm.swap (cellsB m #[.pointer (some ⟨p, 0, none⟩)] 98) (SetATE p ys) M)).trans ?_
  exact (sl_append_to [cellsB m #[.pointer (some ⟨p, 0, none⟩)] 98, SetATE p ys] M).trans (Ent.star (show Ent _ (MapATE m ys) from fun _ _ x => ⟨p, x⟩) (Ent.refl _))
theorem atTE_spec (k : NumD) : Ctr Try.prog 75 [k.val] [] (fun v M => v = (PgTE.mk k PgTE.zero.v).val ∧ M = []) := by
  refine spec_of Try.func75 rfl Try.ntmps75 rfl fun w0 F => ?_
  repeat (first | refine g_endt ?_ | refine g_end ?_ | refine g_then ?_ | refine g_in_normal ?_ | refine g_then_ret ?_ | refine g_in_ret ?_ | refine g_then_exit ?_ | refine g_in_exit rfl ?_ | refine g_in_exit_ne (by decide) ?_ | refine g_seq ?_ | refine g_region ?_ | refine g_block ?_ | refine g_ret ?_ | refine g_return_n ?_ | refine g_exit ?_ | refine g_skip ?_)
  refine o_alloc fun r => ?_
  refine g_endt ?_
  repeat (first | refine g_endt ?_ | refine g_end ?_ | refine g_then ?_ | refine g_in_normal ?_ | refine g_then_ret ?_ | refine g_in_ret ?_ | refine g_then_exit ?_ | refine g_in_exit rfl ?_ | refine g_in_exit_ne (by decide) ?_ | refine g_seq ?_ | refine g_region ?_ | refine g_block ?_ | refine g_ret ?_ | refine g_return_n ?_ | refine g_exit ?_ | refine g_skip ?_)
  refine o_move ?_
  refine o_build (PgTE.mk k PgTE.zero.v).val (fun w => by kernel_rfl) ?_
  refine o_store (v := (PgTE.mk k PgTE.zero.v).val) rfl rfl rfl rfl rfl ?_
  refine g_endt ?_
  repeat (first | refine g_endt ?_ | refine g_end ?_ | refine g_then ?_ | refine g_in_normal ?_ | refine g_then_ret ?_ | refine g_in_ret ?_ | refine g_then_exit ?_ | refine g_in_exit rfl ?_ | refine g_in_exit_ne (by decide) ?_ | refine g_seq ?_ | refine g_region ?_ | refine g_block ?_ | refine g_ret ?_ | refine g_return_n ?_ | refine g_exit ?_ | refine g_skip ?_)
  exact ret1 rfl (resCN (v := (PgTE.mk k PgTE.zero.v).val) rfl rfl rfl) ⟨rfl, rfl⟩
theorem NewMTE_spec : Ctr Try.prog 58 [] [] (fun v M => ∃ m, v = .pointer (some ⟨m, 0, none⟩) ∧ M = [MapATE m []]) := by
  refine spec_of Try.func58 rfl Try.ntmps58 rfl fun w0 F => ?_
  repeat (first | refine g_endt ?_ | refine g_end ?_ | refine g_then ?_ | refine g_in_normal ?_ | refine g_then_ret ?_ | refine g_in_ret ?_ | refine g_then_exit ?_ | refine g_in_exit rfl ?_ | refine g_in_exit_ne (by decide) ?_ | refine g_seq ?_ | refine g_region ?_ | refine g_block ?_ | refine g_ret ?_ | refine g_return_n ?_ | refine g_exit ?_ | refine g_skip ?_)
  refine o_assign ?_
  first | refine g_endt ?_ | refine g_end ?_
  repeat (first | refine g_endt ?_ | refine g_end ?_ | refine g_then ?_ | refine g_in_normal ?_ | refine g_then_ret ?_ | refine g_in_ret ?_ | refine g_then_exit ?_ | refine g_in_exit rfl ?_ | refine g_in_exit_ne (by decide) ?_ | refine g_seq ?_ | refine g_region ?_ | refine g_block ?_ | refine g_ret ?_ | refine g_return_n ?_ | refine g_exit ?_ | refine g_skip ?_)
  refine o_call NewTE_spec rfl rfl ?_
  rintro _ _ ⟨p, rfl, rfl⟩
  refine o_build (.agg #[.pointer (some ⟨p, 0, none⟩)]) (fun w => by kernel_rfl) ?_
  refine o_boxc #[.pointer (some ⟨p, 0, none⟩)] rfl rfl fun m => ?_
  refine o_assign ?_
  refine g_endt ?_
  refine shutMTE m p [] ?_
  repeat (first | refine g_endt ?_ | refine g_end ?_ | refine g_then ?_ | refine g_in_normal ?_ | refine g_then_ret ?_ | refine g_in_ret ?_ | refine g_then_exit ?_ | refine g_in_exit rfl ?_ | refine g_in_exit_ne (by decide) ?_ | refine g_seq ?_ | refine g_region ?_ | refine g_block ?_ | refine g_ret ?_ | refine g_return_n ?_ | refine g_exit ?_ | refine g_skip ?_)
  exact ret1 rfl (resT rfl) ⟨m, rfl, rfl⟩
/-- What a map is behind a Put of k with v that has found place i. -/
def putLTE (ys : List PgTE) (k : NumD) (v : ElemD) (i : Nat) (there : Bool) : List PgTE := cond there (ys.set i ⟨(ys[i]?.map (·.k)).getD k, v⟩) (ys.take i ++ ⟨k, v⟩ :: ys.drop i)
theorem PutMTE_spec (m : Nat) (ys : List PgTE) (k : NumD) (v : ElemD) (hs : Srt PgTE.cmp ys) (hl : ys.length < 999999999) : Ctr Try.prog 70 [.pointer (some ⟨m, 0, none⟩), k.val, PgTE.vval v] [MapATE m ys]
    (fun u M => ∃ (i : Nat) (there : Bool), u = .bool !there ∧ M = [MapATE m (putLTE ys k v i there)] ∧ FindR PgTE.cmp ys ⟨k, v⟩ i there) := by
  refine spec_of Try.func70 rfl Try.ntmps70 rfl fun w0 F => ?_
  repeat (first | refine g_endt ?_ | refine g_end ?_ | refine g_then ?_ | refine g_in_normal ?_ | refine g_then_ret ?_ | refine g_in_ret ?_ | refine g_then_exit ?_ | refine g_in_exit rfl ?_ | refine g_in_exit_ne (by decide) ?_ | refine g_seq ?_ | refine g_region ?_ | refine g_block ?_ | refine g_ret ?_ | refine g_return_n ?_ | refine g_exit ?_ | refine g_skip ?_)
  refine openMTE m ys fun p => ?_
  refine o_boxc v.val.cells rfl rfl fun b => ?_
  refine o_assign ?_
  first | refine g_endt ?_ | refine g_end ?_
  repeat (first | refine g_endt ?_ | refine g_end ?_ | refine g_then ?_ | refine g_in_normal ?_ | refine g_then_ret ?_ | refine g_in_ret ?_ | refine g_then_exit ?_ | refine g_in_exit rfl ?_ | refine g_in_exit_ne (by decide) ?_ | refine g_seq ?_ | refine g_region ?_ | refine g_block ?_ | refine g_ret ?_ | refine g_return_n ?_ | refine g_exit ?_ | refine g_skip ?_)
  refine o_move ?_
  refine o_peql rfl ?_
  first | refine g_endt ?_ | refine g_end ?_
  first | refine g_seq (g_cond_f rfl (rfl) ?_) | refine g_cond_f rfl (rfl) ?_
  repeat (first | refine g_endt ?_ | refine g_end ?_ | refine g_then ?_ | refine g_in_normal ?_ | refine g_then_ret ?_ | refine g_in_ret ?_ | refine g_then_exit ?_ | refine g_in_exit rfl ?_ | refine g_in_exit_ne (by decide) ?_ | refine g_seq ?_ | refine g_region ?_ | refine g_block ?_ | refine g_ret ?_ | refine g_return_n ?_ | refine g_exit ?_ | refine g_skip ?_)
  refine g_draw [10, 11] [0,1,2,3,4,5,6,7,8,9,10,11,12] [SetATE p ys, cellsB m #[.pointer (some ⟨p, 0, none⟩)] 98] mixed rfl ?_
  refine ob_q rfl rfl ⟨_, fun X Q h => o_move (g_end (h _ _ ⟨rfl, rfl⟩)), ?_⟩
  refine ob_q rfl rfl ⟨_, fun X Q h => o_nil rfl (g_end (h _ _ ⟨rfl, rfl⟩)), ?_⟩
  refine ob_q rfl rfl ⟨_, fun X Q h => o_field rfl (g_end (h _ _ ⟨rfl, rfl⟩)), ?_⟩
  refine ob_q rfl rfl ⟨_, fun X Q h => o_load1 (v := .pointer (some ⟨p, 0, none⟩)) rfl rfl (g_end (h _ _ ⟨rfl, rfl⟩)), ?_⟩
  refine ob_q rfl rfl ⟨_, fun X Q h => o_move (g_end (h _ _ ⟨rfl, rfl⟩)), ?_⟩
  refine ob_q rfl rfl ⟨_, fun X Q h => o_call (atTE_spec k) rfl rfl <| by rintro _ _ ⟨rfl, rfl⟩; exact (g_end (h _ _ ⟨rfl, rfl⟩)), ?_⟩
  refine ob_q rfl rfl ⟨_, fun X Q h => o_call (GetMTE_spec p ys ⟨k, PgTE.zero.v⟩ hs (by omega)) rfl rfl <| by rintro _ _ ⟨rfl, rfl⟩; exact (g_end (h _ _ ⟨rfl, rfl⟩)), ?_⟩
  refine ob_q rfl rfl ⟨_, fun X Q h => o_move (g_end (h _ _ ⟨rfl, rfl⟩)), ?_⟩
  refine ob_q rfl rfl ⟨_, fun X Q h => o_extract rfl rfl (g_end (h _ _ ⟨rfl, rfl⟩)), ?_⟩
  refine ob_q rfl rfl ⟨_, fun X Q h => o_extract rfl rfl (g_end (h _ _ ⟨rfl, rfl⟩)), ?_⟩
  generalize ho : getM PgTE.cmp ys ⟨k, PgTE.zero.v⟩ = o
  refine ob_l rfl rfl fun Qz hz => o_alloc fun r => g_end (hz _ _ ⟨_, ob_fin, ?_⟩)
  clear hz Qz
  refine ob_l rfl rfl fun Qz hz => o_store (v := (o.getD PgTE.zero).val) rfl rfl rfl rfl rfl <| g_end (hz _ _ ⟨_, ob_fin, ?_⟩)
  clear hz Qz
  refine ob_q rfl rfl ⟨_, fun X Q h => o_assign (g_end (h _ _ ⟨rfl, rfl⟩)), ?_⟩
  refine ob_nil ?_
  refine G.norm r (o.getD PgTE.zero).val.cells rfl ?_
  repeat (first | refine g_endt ?_ | refine g_end ?_ | refine g_then ?_ | refine g_in_normal ?_ | refine g_then_ret ?_ | refine g_in_ret ?_ | refine g_then_exit ?_ | refine g_in_exit rfl ?_ | refine g_in_exit_ne (by decide) ?_ | refine g_seq ?_ | refine g_region ?_ | refine g_block ?_ | refine g_ret ?_ | refine g_return_n ?_ | refine g_exit ?_ | refine g_skip ?_)
  refine o_move ?_
  refine o_not rfl ?_
  refine g_endt ?_
  cases o with
  | none =>
    first | refine g_seq (g_cond_t rfl (rfl) ?_) | refine g_cond_t rfl (rfl) ?_
    repeat (first | refine g_endt ?_ | refine g_end ?_ | refine g_then ?_ | refine g_in_normal ?_ | refine g_then_ret ?_ | refine g_in_ret ?_ | refine g_then_exit ?_ | refine g_in_exit rfl ?_ | refine g_in_exit_ne (by decide) ?_ | refine g_seq ?_ | refine g_region ?_ | refine g_block ?_ | refine g_ret ?_ | refine g_return_n ?_ | refine g_exit ?_ | refine g_skip ?_)
    refine g_draw [7] [0,1,2,3,4,5,6,7,8] [cellsB m #[.pointer (some ⟨p, 0, none⟩)] 98, cellsB b v.val.cells 25] mixed rfl ?_
    refine ob_q rfl rfl ⟨_, fun X Q h => o_move (g_end (h _ _ ⟨rfl, rfl⟩)), ?_⟩
    refine ob_q rfl rfl ⟨_, fun X Q h => o_nil rfl (g_end (h _ _ ⟨rfl, rfl⟩)), ?_⟩
    refine ob_q rfl rfl ⟨_, fun X Q h => o_field rfl (g_end (h _ _ ⟨rfl, rfl⟩)), ?_⟩
    refine ob_q rfl rfl ⟨_, fun X Q h => o_load1 (v := .pointer (some ⟨p, 0, none⟩)) rfl rfl (g_end (h _ _ ⟨rfl, rfl⟩)), ?_⟩
    refine ob_q rfl rfl ⟨_, fun X Q h => o_move (g_end (h _ _ ⟨rfl, rfl⟩)), ?_⟩
    refine ob_q rfl rfl ⟨_, fun X Q h => o_loadN (v := v.val) rfl rfl rfl (g_end (h _ _ ⟨rfl, rfl⟩)), ?_⟩
    refine ob_q rfl rfl ⟨_, fun X Q h => o_build (PgTE.mk k v).val (fun w => by kernel_rfl) (g_end (h _ _ ⟨rfl, rfl⟩)), ?_⟩
    refine ob_l rfl rfl fun Qz hz => o_call (PutTE_spec p ys ⟨k, v⟩ hs (by omega)) rfl rfl ?_
    rintro _ M1 ⟨i, there, rfl, hM, hk⟩
    have ht : there = false := by
      cases there with
      | false => rfl
      | true =>
        obtain ⟨y, hy, _⟩ := hk.2.1 rfl
        have hg : getM PgTE.cmp ys ⟨k, PgTE.zero.v⟩ = some y := getM_some PgTE.lin hs hk hy
        rw [ho] at hg; cases hg
    subst ht
    have hM : M1 = [SetATE p (putLTE ys k v i false)] := hM
    subst hM
    refine g_end (hz _ _ ⟨_, ob_fin, ?_⟩)
    clear hz Qz
    refine ob_q rfl rfl ⟨_, fun X Q h => o_assign (g_end (h _ _ ⟨rfl, rfl⟩)), ?_⟩
    refine ob_nil ?_
    refine shutMTE m p (putLTE ys k v i false) ?_
    repeat (first | refine g_endt ?_ | refine g_end ?_ | refine g_then ?_ | refine g_in_normal ?_ | refine g_then_ret ?_ | refine g_in_ret ?_ | refine g_then_exit ?_ | refine g_in_exit rfl ?_ | refine g_in_exit_ne (by decide) ?_ | refine g_seq ?_ | refine g_region ?_ | refine g_block ?_ | refine g_ret ?_ | refine g_return_n ?_ | refine g_exit ?_ | refine g_skip ?_)
    exact ret1 rfl (resT rfl) ⟨i, false, rfl, rfl, hk⟩
  | some old =>
    first | refine g_seq (g_cond_f rfl (rfl) ?_) | refine g_cond_f rfl (rfl) ?_
    obtain ⟨i, hi, hy⟩ : ∃ i, FindR PgTE.cmp ys ⟨k, PgTE.zero.v⟩ i true ∧ ys[i]? = some old := by
      have h1 := List.find?_some ho
      have h2 := List.mem_of_find?_eq_some ho
      obtain ⟨j, hj⟩ := List.mem_iff_getElem?.1 h2
      exact ⟨j, ⟨by have := (List.getElem?_eq_some_iff.1 hj).1; omega, fun _ => ⟨old, hj, by simpa using h1⟩, fun e => by cases e⟩, hj⟩
    have hc : PgTE.cmp old ⟨k, PgTE.zero.v⟩ = 0 := by
      obtain ⟨a, ha, ea⟩ := hi.2.1 rfl
      rw [hy] at ha; cases ha; exact ea
    refine G.norm r old.val.cells rfl ?_
    have hself : FindR PgTE.cmp ys old i true := ⟨hi.1, fun _ => ⟨old, hy, PgTE.lin.refl old⟩, fun e => by cases e⟩
    repeat (first | refine g_endt ?_ | refine g_end ?_ | refine g_then ?_ | refine g_in_normal ?_ | refine g_then_ret ?_ | refine g_in_ret ?_ | refine g_then_exit ?_ | refine g_in_exit rfl ?_ | refine g_in_exit_ne (by decide) ?_ | refine g_seq ?_ | refine g_region ?_ | refine g_block ?_ | refine g_ret ?_ | refine g_return_n ?_ | refine g_exit ?_ | refine g_skip ?_)
    refine g_draw [5] [0,1,2,3,4,5] [cellsB m #[.pointer (some ⟨p, 0, none⟩)] 98, cellsB r old.val.cells 101] mixed rfl ?_
    refine ob_q rfl rfl ⟨_, fun X Q h => o_move (g_end (h _ _ ⟨rfl, rfl⟩)), ?_⟩
    refine ob_q rfl rfl ⟨_, fun X Q h => o_nil rfl (g_end (h _ _ ⟨rfl, rfl⟩)), ?_⟩
    refine ob_q rfl rfl ⟨_, fun X Q h => o_field rfl (g_end (h _ _ ⟨rfl, rfl⟩)), ?_⟩
    refine ob_q rfl rfl ⟨_, fun X Q h => o_load1 (v := .pointer (some ⟨p, 0, none⟩)) rfl rfl (g_end (h _ _ ⟨rfl, rfl⟩)), ?_⟩
    refine ob_q rfl rfl ⟨_, fun X Q h => o_loadN (v := old.val) rfl rfl rfl (g_end (h _ _ ⟨rfl, rfl⟩)), ?_⟩
    refine ob_l rfl rfl fun Qz hz => o_call (DropTE_spec p ys old hs (by omega)) rfl rfl ?_
    rintro _ M1 ⟨i1, there, rfl, hM, hk⟩
    have ht : there = true := by
      cases there with
      | true => rfl
      | false =>
        obtain ⟨h1, h2⟩ := hk.2.2 rfl
        have h3 := PgTE.lin.refl old
        by_cases hlt : i < i1
        · have := h1 i old hlt hy; omega
        · have := h2 i old (by omega) hy; omega
    subst ht
    have hii : i1 = i := FindR.one PgTE.lin hs hk hself
    subst hii
    have hM : M1 = [SetATE p (ys.eraseIdx i1)] := hM
    subst hM
    refine g_end (hz _ _ ⟨_, ob_fin, ?_⟩)
    clear hz Qz
    refine ob_nil ?_
    repeat (first | refine g_endt ?_ | refine g_end ?_ | refine g_then ?_ | refine g_in_normal ?_ | refine g_then_ret ?_ | refine g_in_ret ?_ | refine g_then_exit ?_ | refine g_in_exit rfl ?_ | refine g_in_exit_ne (by decide) ?_ | refine g_seq ?_ | refine g_region ?_ | refine g_block ?_ | refine g_ret ?_ | refine g_return_n ?_ | refine g_exit ?_ | refine g_skip ?_)
    refine g_draw [8] [0,1,2,3,4,5,6,7,8] [cellsB m #[.pointer (some ⟨p, 0, none⟩)] 98, cellsB r old.val.cells 101, cellsB b v.val.cells 25] mixed rfl ?_
    refine ob_q rfl rfl ⟨_, fun X Q h => o_move (g_end (h _ _ ⟨rfl, rfl⟩)), ?_⟩
    refine ob_q rfl rfl ⟨_, fun X Q h => o_nil rfl (g_end (h _ _ ⟨rfl, rfl⟩)), ?_⟩
    refine ob_q rfl rfl ⟨_, fun X Q h => o_field rfl (g_end (h _ _ ⟨rfl, rfl⟩)), ?_⟩
    refine ob_q rfl rfl ⟨_, fun X Q h => o_load1 (v := .pointer (some ⟨p, 0, none⟩)) rfl rfl (g_end (h _ _ ⟨rfl, rfl⟩)), ?_⟩
    refine ob_q rfl rfl ⟨_, fun X Q h => o_field rfl (g_end (h _ _ ⟨rfl, rfl⟩)), ?_⟩
    refine ob_q rfl rfl ⟨_, fun X Q h => o_load1 (v := old.k.val) rfl rfl (g_end (h _ _ ⟨rfl, rfl⟩)), ?_⟩
    refine ob_q rfl rfl ⟨_, fun X Q h => o_loadN (v := v.val) rfl rfl rfl (g_end (h _ _ ⟨rfl, rfl⟩)), ?_⟩
    refine ob_q rfl rfl ⟨_, fun X Q h => o_build (PgTE.mk old.k v).val (fun w => by kernel_rfl) (g_end (h _ _ ⟨rfl, rfl⟩)), ?_⟩
    refine ob_l rfl rfl fun Qz hz => o_call (PutTE_spec p (ys.eraseIdx i1) ⟨old.k, v⟩ (Srt.erase hs i1) (by have : (ys.eraseIdx i1).length ≤ ys.length := List.length_eraseIdx_le _ _; omega)) rfl rfl ?_
    rintro _ M2 ⟨i2, there, rfl, hM, hk2⟩
    have hrep := replace PgTE.lin hs hy (x := ⟨old.k, v⟩) (PgTE.lin.refl old) hk2
    obtain ⟨rfl, hrep⟩ := hrep
    have hM : M2 = [SetATE p (putLTE ys k v i1 true)] := by
      rw [hM]
      show [SetATE p _] = [SetATE p (ys.set i1 ⟨(ys[i1]?.map (·.k)).getD k, v⟩)]
      rw [hy]
      show [SetATE p ((ys.eraseIdx i1).take i2 ++ ⟨old.k, v⟩ :: (ys.eraseIdx i1).drop i2)] = _
      rw [hrep]
      rfl
    subst hM
    refine g_end (hz _ _ ⟨_, ob_fin, ?_⟩)
    clear hz Qz
    refine ob_nil ?_
    repeat (first | refine g_endt ?_ | refine g_end ?_ | refine g_then ?_ | refine g_in_normal ?_ | refine g_then_ret ?_ | refine g_in_ret ?_ | refine g_then_exit ?_ | refine g_in_exit rfl ?_ | refine g_in_exit_ne (by decide) ?_ | refine g_seq ?_ | refine g_region ?_ | refine g_block ?_ | refine g_ret ?_ | refine g_return_n ?_ | refine g_exit ?_ | refine g_skip ?_)
    refine o_assign ?_
    first | refine g_endt ?_ | refine g_end ?_
    refine shutMTE m p (putLTE ys k v i1 true) ?_
    repeat (first | refine g_endt ?_ | refine g_end ?_ | refine g_then ?_ | refine g_in_normal ?_ | refine g_then_ret ?_ | refine g_in_ret ?_ | refine g_then_exit ?_ | refine g_in_exit rfl ?_ | refine g_in_exit_ne (by decide) ?_ | refine g_seq ?_ | refine g_region ?_ | refine g_block ?_ | refine g_ret ?_ | refine g_return_n ?_ | refine g_exit ?_ | refine g_skip ?_)
    exact ret1 rfl (resT rfl) ⟨i1, true, rfl, rfl, hi⟩
end Go.Proofs.Ytdpbjoldgiikkaa
/- An ordered map's functions, for one type of keys and one of values: a key more that was not there. -/
namespace Go.Proofs.Ytdpbjoldgiikkaa
open Go Go.Sl
attribute [local irreducible] Code.wpIn roundPost bodyPostM runL Ret Meets Begin

theorem PutNMTE_spec (m : Nat) (ys : List PgTE) (k : NumD) (v : ElemD) (hs : Srt PgTE.cmp ys) (hl : ys.length < 999999999) (hn : hasC PgTE.cmp ys ⟨k, v⟩ = false) : Ctr Try.prog 70 [.pointer (some ⟨m, 0, none⟩), k.val, PgTE.vval v] [MapATE m ys]
    (fun u M => u = .bool true ∧ M = [MapATE m (insC PgTE.cmp ys ⟨k, v⟩)]) := (PutMTE_spec m ys k v hs hl).mono fun u M ⟨i, there, h1, h2, h3⟩ => by
  have e := hasC_of h3
  rw [hn] at e
  subst e
  have h4 := insC_of PgTE.lin hs h3
  rw [h1, h2, ← h4]
  exact ⟨rfl, rfl⟩
end Go.Proofs.Ytdpbjoldgiikkaa
/- An ordered map's functions, for one type of keys and one of values: dropped. -/
namespace Go.Proofs.Ytdpbjoldgiikkaa
open Go Go.Sl
attribute [local irreducible] Code.wpIn roundPost bodyPostM runL Ret Meets Begin

theorem DropMTE_spec (m : Nat) (ys : List PgTE) (k : NumD) (hs : Srt PgTE.cmp ys) (hl : ys.length < 1000000000) : Ctr Try.prog 66 [.pointer (some ⟨m, 0, none⟩), k.val] [MapATE m ys]
    (fun u M => ∃ (i : Nat) (there : Bool), u = .tuple #[PgTE.vval ((cond there ys[i]? none).getD PgTE.zero).v, .bool there] ∧ M = [MapATE m (cond there (ys.eraseIdx i) ys)] ∧ FindR PgTE.cmp ys ⟨k, PgTE.zero.v⟩ i there) := by
  refine spec_of Try.func66 rfl Try.ntmps66 rfl fun w0 F => ?_
  repeat (first | refine g_endt ?_ | refine g_end ?_ | refine g_then ?_ | refine g_in_normal ?_ | refine g_then_ret ?_ | refine g_in_ret ?_ | refine g_then_exit ?_ | refine g_in_exit rfl ?_ | refine g_in_exit_ne (by decide) ?_ | refine g_seq ?_ | refine g_region ?_ | refine g_block ?_ | refine g_ret ?_ | refine g_return_n ?_ | refine g_exit ?_ | refine g_skip ?_)
  refine openMTE m ys fun p => ?_
  refine o_alloc fun r0 => ?_
  refine o_assign ?_
  refine g_endt ?_
  repeat (first | refine g_endt ?_ | refine g_end ?_ | refine g_then ?_ | refine g_in_normal ?_ | refine g_then_ret ?_ | refine g_in_ret ?_ | refine g_then_exit ?_ | refine g_in_exit rfl ?_ | refine g_in_exit_ne (by decide) ?_ | refine g_seq ?_ | refine g_region ?_ | refine g_block ?_ | refine g_ret ?_ | refine g_return_n ?_ | refine g_exit ?_ | refine g_skip ?_)
  refine o_move ?_
  refine o_peql rfl ?_
  first | refine g_endt ?_ | refine g_end ?_
  first | refine g_seq (g_cond_f rfl (rfl) ?_) | refine g_cond_f rfl (rfl) ?_
  repeat (first | refine g_endt ?_ | refine g_end ?_ | refine g_then ?_ | refine g_in_normal ?_ | refine g_then_ret ?_ | refine g_in_ret ?_ | refine g_then_exit ?_ | refine g_in_exit rfl ?_ | refine g_in_exit_ne (by decide) ?_ | refine g_seq ?_ | refine g_region ?_ | refine g_block ?_ | refine g_ret ?_ | refine g_return_n ?_ | refine g_exit ?_ | refine g_skip ?_)
  refine g_draw [10, 11] [0,1,2,3,4,5,6,7,8,9,10,11,12] [SetATE p ys, cellsB m #[.pointer (some ⟨p, 0, none⟩)] 98] mixed rfl ?_
  refine ob_q rfl rfl ⟨_, fun X Q h => o_move (g_end (h _ _ ⟨rfl, rfl⟩)), ?_⟩
  refine ob_q rfl rfl ⟨_, fun X Q h => o_nil rfl (g_end (h _ _ ⟨rfl, rfl⟩)), ?_⟩
  refine ob_q rfl rfl ⟨_, fun X Q h => o_field rfl (g_end (h _ _ ⟨rfl, rfl⟩)), ?_⟩
  refine ob_q rfl rfl ⟨_, fun X Q h => o_load1 (v := .pointer (some ⟨p, 0, none⟩)) rfl rfl (g_end (h _ _ ⟨rfl, rfl⟩)), ?_⟩
  refine ob_q rfl rfl ⟨_, fun X Q h => o_move (g_end (h _ _ ⟨rfl, rfl⟩)), ?_⟩
  refine ob_q rfl rfl ⟨_, fun X Q h => o_call (atTE_spec k) rfl rfl <| by rintro _ _ ⟨rfl, rfl⟩; exact (g_end (h _ _ ⟨rfl, rfl⟩)), ?_⟩
  refine ob_q rfl rfl ⟨_, fun X Q h => o_call (GetMTE_spec p ys ⟨k, PgTE.zero.v⟩ hs hl) rfl rfl <| by rintro _ _ ⟨rfl, rfl⟩; exact (g_end (h _ _ ⟨rfl, rfl⟩)), ?_⟩
  refine ob_q rfl rfl ⟨_, fun X Q h => o_move (g_end (h _ _ ⟨rfl, rfl⟩)), ?_⟩
  refine ob_q rfl rfl ⟨_, fun X Q h => o_extract rfl rfl (g_end (h _ _ ⟨rfl, rfl⟩)), ?_⟩
  refine ob_q rfl rfl ⟨_, fun X Q h => o_extract rfl rfl (g_end (h _ _ ⟨rfl, rfl⟩)), ?_⟩
  generalize ho : getM PgTE.cmp ys ⟨k, PgTE.zero.v⟩ = o
  refine ob_l rfl rfl fun Qz hz => o_alloc fun r => g_end (hz _ _ ⟨_, ob_fin, ?_⟩)
  clear hz Qz
  refine ob_l rfl rfl fun Qz hz => o_store (v := (o.getD PgTE.zero).val) rfl rfl rfl rfl rfl <| g_end (hz _ _ ⟨_, ob_fin, ?_⟩)
  clear hz Qz
  refine ob_q rfl rfl ⟨_, fun X Q h => o_assign (g_end (h _ _ ⟨rfl, rfl⟩)), ?_⟩
  refine ob_nil ?_
  refine G.norm r (o.getD PgTE.zero).val.cells rfl ?_
  repeat (first | refine g_endt ?_ | refine g_end ?_ | refine g_then ?_ | refine g_in_normal ?_ | refine g_then_ret ?_ | refine g_in_ret ?_ | refine g_then_exit ?_ | refine g_in_exit rfl ?_ | refine g_in_exit_ne (by decide) ?_ | refine g_seq ?_ | refine g_region ?_ | refine g_block ?_ | refine g_ret ?_ | refine g_return_n ?_ | refine g_exit ?_ | refine g_skip ?_)
  refine o_move ?_
  refine g_endt ?_
  cases o with
  | none =>
    first | refine g_seq (g_cond_f rfl (rfl) ?_) | refine g_cond_f rfl (rfl) ?_
    repeat (first | refine g_endt ?_ | refine g_end ?_ | refine g_then ?_ | refine g_in_normal ?_ | refine g_then_ret ?_ | refine g_in_ret ?_ | refine g_then_exit ?_ | refine g_in_exit rfl ?_ | refine g_in_exit_ne (by decide) ?_ | refine g_seq ?_ | refine g_region ?_ | refine g_block ?_ | refine g_ret ?_ | refine g_return_n ?_ | refine g_exit ?_ | refine g_skip ?_)
    refine G.norm r PgTE.zero.val.cells rfl ?_
    refine o_field rfl ?_
    refine o_loadN (v := PgTE.zero.v.val) rfl rfl rfl ?_
    refine o_move ?_
    refine o_store (v := PgTE.zero.v.val) rfl rfl rfl rfl rfl ?_
    refine o_assign ?_
    refine g_endt ?_
    refine G.norm r0 PgTE.zero.v.val.cells rfl ?_
    refine shutMTE m p ys ?_
    obtain ⟨i, hi⟩ := find_none PgTE.lin hs ho
    repeat (first | refine g_endt ?_ | refine g_end ?_ | refine g_then ?_ | refine g_in_normal ?_ | refine g_then_ret ?_ | refine g_in_ret ?_ | refine g_then_exit ?_ | refine g_in_exit rfl ?_ | refine g_in_exit_ne (by decide) ?_ | refine g_seq ?_ | refine g_region ?_ | refine g_block ?_ | refine g_ret ?_ | refine g_return_n ?_ | refine g_exit ?_ | refine g_skip ?_)
    exact ret2 (K := [MapATE m ys]) rfl (resCN (v := PgTE.zero.v.val) rfl rfl rfl) (resT rfl) ⟨i, false, rfl, rfl, hi⟩
  | some old =>
    first | refine g_seq (g_cond_t rfl (rfl) ?_) | refine g_cond_t rfl (rfl) ?_
    obtain ⟨i, hi, hy⟩ : ∃ i, FindR PgTE.cmp ys ⟨k, PgTE.zero.v⟩ i true ∧ ys[i]? = some old := by
      have h1 := List.find?_some ho
      have h2 := List.mem_of_find?_eq_some ho
      obtain ⟨j, hj⟩ := List.mem_iff_getElem?.1 h2
      exact ⟨j, ⟨by have := (List.getElem?_eq_some_iff.1 hj).1; omega, fun _ => ⟨old, hj, by simpa using h1⟩, fun e => by cases e⟩, hj⟩
    refine G.norm r old.val.cells rfl ?_
    have hself : FindR PgTE.cmp ys old i true := ⟨hi.1, fun _ => ⟨old, hy, PgTE.lin.refl old⟩, fun e => by cases e⟩
    repeat (first | refine g_endt ?_ | refine g_end ?_ | refine g_then ?_ | refine g_in_normal ?_ | refine g_then_ret ?_ | refine g_in_ret ?_ | refine g_then_exit ?_ | refine g_in_exit rfl ?_ | refine g_in_exit_ne (by decide) ?_ | refine g_seq ?_ | refine g_region ?_ | refine g_block ?_ | refine g_ret ?_ | refine g_return_n ?_ | refine g_exit ?_ | refine g_skip ?_)
    refine g_draw [5] [0,1,2,3,4,5] [cellsB m #[.pointer (some ⟨p, 0, none⟩)] 98, cellsB r old.val.cells 101] mixed rfl ?_
    refine ob_q rfl rfl ⟨_, fun X Q h => o_move (g_end (h _ _ ⟨rfl, rfl⟩)), ?_⟩
    refine ob_q rfl rfl ⟨_, fun X Q h => o_nil rfl (g_end (h _ _ ⟨rfl, rfl⟩)), ?_⟩
    refine ob_q rfl rfl ⟨_, fun X Q h => o_field rfl (g_end (h _ _ ⟨rfl, rfl⟩)), ?_⟩
    refine ob_q rfl rfl ⟨_, fun X Q h => o_load1 (v := .pointer (some ⟨p, 0, none⟩)) rfl rfl (g_end (h _ _ ⟨rfl, rfl⟩)), ?_⟩
    refine ob_q rfl rfl ⟨_, fun X Q h => o_loadN (v := old.val) rfl rfl rfl (g_end (h _ _ ⟨rfl, rfl⟩)), ?_⟩
    refine ob_l rfl rfl fun Qz hz => o_call (DropTE_spec p ys old hs (by omega)) rfl rfl ?_
    rintro _ M1 ⟨i1, there, rfl, hM, hk⟩
    have ht : there = true := by
      cases there with
      | true => rfl
      | false =>
        obtain ⟨h1, h2⟩ := hk.2.2 rfl
        have h3 := PgTE.lin.refl old
        by_cases hlt : i < i1
        · have := h1 i old hlt hy; omega
        · have := h2 i old (by omega) hy; omega
    subst ht
    have hii : i1 = i := FindR.one PgTE.lin hs hk hself
    subst hii
    have hM : M1 = [SetATE p (ys.eraseIdx i1)] := hM
    subst hM
    refine g_end (hz _ _ ⟨_, ob_fin, ?_⟩)
    clear hz Qz
    refine ob_nil ?_
    repeat (first | refine g_endt ?_ | refine g_end ?_ | refine g_then ?_ | refine g_in_normal ?_ | refine g_then_ret ?_ | refine g_in_ret ?_ | refine g_then_exit ?_ | refine g_in_exit rfl ?_ | refine g_in_exit_ne (by decide) ?_ | refine g_seq ?_ | refine g_region ?_ | refine g_block ?_ | refine g_ret ?_ | refine g_return_n ?_ | refine g_exit ?_ | refine g_skip ?_)
    refine o_field rfl ?_
    refine o_loadN (v := old.v.val) rfl rfl rfl ?_
    refine o_move ?_
    refine o_store (v := old.v.val) rfl rfl rfl rfl rfl ?_
    refine o_assign ?_
    refine g_endt ?_
    refine G.norm r0 old.v.val.cells rfl ?_
    refine shutMTE m p (ys.eraseIdx i1) ?_
    repeat (first | refine g_endt ?_ | refine g_end ?_ | refine g_then ?_ | refine g_in_normal ?_ | refine g_then_ret ?_ | refine g_in_ret ?_ | refine g_then_exit ?_ | refine g_in_exit rfl ?_ | refine g_in_exit_ne (by decide) ?_ | refine g_seq ?_ | refine g_region ?_ | refine g_block ?_ | refine g_ret ?_ | refine g_return_n ?_ | refine g_exit ?_ | refine g_skip ?_)
    exact ret2 (K := [MapATE m (ys.eraseIdx i1)]) rfl (resCN (v := old.v.val) rfl rfl rfl) (resT rfl) ⟨i1, true, by rw [cond_true, hy]; rfl, rfl, hi⟩
end Go.Proofs.Ytdpbjoldgiikkaa
/- An ordered set's functions, for one type of members: asked. -/
namespace Go.Proofs.Ytdpbjoldgiikkaa
open Go Go.Sl
attribute [local irreducible] Code.wpIn roundPost bodyPostM runL Ret Meets Begin

/-- What Get tells. -/
def GetRES (ys : List ElemD) (x : ElemD) (o : Option ElemD) : Prop := match o with
  | some y => ∃ k, FindR ElemD.cmp ys x k true ∧ ys[k]? = some y
  | none => ∃ k, FindR ElemD.cmp ys x k false
theorem GetES_spec (p : Nat) (ys : List ElemD) (x : ElemD) (hs : Srt ElemD.cmp ys) (hl : ys.length < 1000000000) : Ctr Try.prog 42 [.pointer (some ⟨p, 0, none⟩), x.val] [SetAES p ys]
    (fun v M => ∃ (o : Option ElemD), v = .tuple #[(o.getD ElemD.zero).val, .bool o.isSome] ∧ M = [SetAES p ys] ∧ GetRES ys x o) := by
  refine spec_of Try.func42 rfl Try.ntmps42 rfl fun w0 F => ?_
  repeat (first | refine g_endt ?_ | refine g_end ?_ | refine g_then ?_ | refine g_in_normal ?_ | refine g_then_ret ?_ | refine g_in_ret ?_ | refine g_then_exit ?_ | refine g_in_exit rfl ?_ | refine g_in_exit_ne (by decide) ?_ | refine g_seq ?_ | refine g_region ?_ | refine g_block ?_ | refine g_ret ?_ | refine g_return_n ?_ | refine g_exit ?_ | refine g_skip ?_)
  refine o_boxc x.val.cells rfl rfl fun q => ?_
  refine o_alloc fun r => ?_
  refine o_assign ?_
  first | refine g_endt ?_ | refine g_end ?_
  repeat (first | refine g_endt ?_ | refine g_end ?_ | refine g_then ?_ | refine g_in_normal ?_ | refine g_then_ret ?_ | refine g_in_ret ?_ | refine g_then_exit ?_ | refine g_in_exit rfl ?_ | refine g_in_exit_ne (by decide) ?_ | refine g_seq ?_ | refine g_region ?_ | refine g_block ?_ | refine g_ret ?_ | refine g_return_n ?_ | refine g_exit ?_ | refine g_skip ?_)
  refine o_alloc fun z => ?_
  refine g_endt ?_
  repeat (first | refine g_endt ?_ | refine g_end ?_ | refine g_then ?_ | refine g_in_normal ?_ | refine g_then_ret ?_ | refine g_in_ret ?_ | refine g_then_exit ?_ | refine g_in_exit rfl ?_ | refine g_in_exit_ne (by decide) ?_ | refine g_seq ?_ | refine g_region ?_ | refine g_block ?_ | refine g_ret ?_ | refine g_return_n ?_ | refine g_exit ?_ | refine g_skip ?_)
  refine o_move ?_
  refine o_peql rfl ?_
  first | refine g_endt ?_ | refine g_end ?_
  first | refine g_seq (g_cond_f rfl (rfl) ?_) | refine g_cond_f rfl (rfl) ?_
  repeat (first | refine g_endt ?_ | refine g_end ?_ | refine g_then ?_ | refine g_in_normal ?_ | refine g_then_ret ?_ | refine g_in_ret ?_ | refine g_then_exit ?_ | refine g_in_exit rfl ?_ | refine g_in_exit_ne (by decide) ?_ | refine g_seq ?_ | refine g_region ?_ | refine g_block ?_ | refine g_ret ?_ | refine g_return_n ?_ | refine g_exit ?_ | refine g_skip ?_)
  refine o_move ?_
  refine o_loadN (v := x.val) rfl rfl rfl ?_
  refine o_call (findES_spec p ys x hs (by omega)) rfl rfl ?_
  rintro _ _ ⟨k, there, rfl, rfl, hk⟩
  refine o_move ?_
  refine o_extract rfl rfl ?_
  refine o_extract rfl rfl ?_
  refine o_assign ?_
  refine o_assign ?_
  first | refine g_endt ?_ | refine g_end ?_
  repeat (first | refine g_endt ?_ | refine g_end ?_ | refine g_then ?_ | refine g_in_normal ?_ | refine g_then_ret ?_ | refine g_in_ret ?_ | refine g_then_exit ?_ | refine g_in_exit rfl ?_ | refine g_in_exit_ne (by decide) ?_ | refine g_seq ?_ | refine g_region ?_ | refine g_block ?_ | refine g_ret ?_ | refine g_return_n ?_ | refine g_exit ?_ | refine g_skip ?_)
  refine o_move ?_
  refine o_not rfl ?_
  refine g_endt ?_
  cases there
  case false =>
    first | refine g_seq (g_cond_t rfl (rfl) ?_) | refine g_cond_t rfl (rfl) ?_
    repeat (first | refine g_endt ?_ | refine g_end ?_ | refine g_then ?_ | refine g_in_normal ?_ | refine g_then_ret ?_ | refine g_in_ret ?_ | refine g_then_exit ?_ | refine g_in_exit rfl ?_ | refine g_in_exit_ne (by decide) ?_ | refine g_seq ?_ | refine g_region ?_ | refine g_block ?_ | refine g_ret ?_ | refine g_return_n ?_ | refine g_exit ?_ | refine g_skip ?_)
    refine o_loadN (v := ElemD.zero.val) rfl rfl rfl ?_
    refine o_store (v := ElemD.zero.val) rfl rfl rfl rfl rfl ?_
    refine o_assign ?_
    first | refine g_endt ?_ | refine g_end ?_
    refine G.norm r ElemD.zero.val.cells rfl ?_
    repeat (first | refine g_endt ?_ | refine g_end ?_ | refine g_then ?_ | refine g_in_normal ?_ | refine g_then_ret ?_ | refine g_in_ret ?_ | refine g_then_exit ?_ | refine g_in_exit rfl ?_ | refine g_in_exit_ne (by decide) ?_ | refine g_seq ?_ | refine g_region ?_ | refine g_block ?_ | refine g_ret ?_ | refine g_return_n ?_ | refine g_exit ?_ | refine g_skip ?_)
    exact ret2 (K := [SetAES p ys]) rfl (resCN (v := ElemD.zero.val) rfl rfl rfl) (resT rfl) ⟨none, rfl, rfl, k, hk⟩
  first | refine g_seq (g_cond_f rfl (rfl) ?_) | refine g_cond_f rfl (rfl) ?_
  obtain ⟨y, hy, hc⟩ := hk.2.1 rfl
  have hk1 : k < ys.length := (List.getElem?_eq_some_iff.1 hy).1
  repeat (first | refine g_endt ?_ | refine g_end ?_ | refine g_then ?_ | refine g_in_normal ?_ | refine g_then_ret ?_ | refine g_in_ret ?_ | refine g_then_exit ?_ | refine g_in_exit rfl ?_ | refine g_in_exit_ne (by decide) ?_ | refine g_seq ?_ | refine g_region ?_ | refine g_block ?_ | refine g_ret ?_ | refine g_return_n ?_ | refine g_exit ?_ | refine g_skip ?_)
  refine openES p ys fun S c b => ?_
  refine o_move ?_
  refine o_nil rfl ?_
  refine o_field rfl ?_
  refine o_load1 (v := .slice S ys.length c) rfl rfl ?_
  refine o_move ?_
  refine o_indexR (ys := ys) (i := k) rfl rfl rfl hk1 rfl rfl ?_
  refine o_loadE (ys := ys) rfl rfl hy ?_
  refine o_store (v := y.val) rfl rfl rfl rfl rfl ?_
  refine o_assign ?_
  first | refine g_endt ?_ | refine g_end ?_
  refine G.norm r y.val.cells rfl ?_
  refine shutES p ys S c b rfl ?_
  repeat (first | refine g_endt ?_ | refine g_end ?_ | refine g_then ?_ | refine g_in_normal ?_ | refine g_then_ret ?_ | refine g_in_ret ?_ | refine g_then_exit ?_ | refine g_in_exit rfl ?_ | refine g_in_exit_ne (by decide) ?_ | refine g_seq ?_ | refine g_region ?_ | refine g_block ?_ | refine g_ret ?_ | refine g_return_n ?_ | refine g_exit ?_ | refine g_skip ?_)
  exact ret2 (K := [SetAES p ys]) rfl (resCN (v := y.val) rfl rfl rfl) (resT rfl) ⟨some y, rfl, rfl, k, hk, hy⟩
end Go.Proofs.Ytdpbjoldgiikkaa
/- An ordered set's functions, for one type of members: where one stands. -/
namespace Go.Proofs.Ytdpbjoldgiikkaa
open Go Go.Sl
attribute [local irreducible] Code.wpIn roundPost bodyPostM runL Ret Meets Begin

theorem PlaceES_spec (p : Nat) (ys : List ElemD) (x : ElemD) (hs : Srt ElemD.cmp ys) (hl : ys.length ≤ 1000000000) : Ctr Try.prog 45 [.pointer (some ⟨p, 0, none⟩), x.val] [SetAES p ys]
    (fun v M => ∃ (k : Nat) (there : Bool), v = .tuple #[.int .i64 (k : Int), .bool there] ∧ M = [SetAES p ys] ∧ FindR ElemD.cmp ys x k there) := by
  refine spec_of Try.func45 rfl Try.ntmps45 rfl fun w0 F => ?_
  -- (*ponder/order.Set[ponder/api.Elem]).Place
  repeat (first | refine g_endt ?_ | refine g_end ?_ | refine g_then ?_ | refine g_in_normal ?_ | refine g_then_ret ?_ | refine g_in_ret ?_ | refine g_then_exit ?_ | refine g_in_exit rfl ?_ | refine g_in_exit_ne (by decide) ?_ | refine g_seq ?_ | refine g_region ?_ | refine g_block ?_ | refine g_ret ?_ | refine g_return_n ?_ | refine g_exit ?_ | refine g_skip ?_)
  refine o_boxc x.val.cells rfl rfl fun q => ?_
  refine o_assign ?_
  refine o_assign ?_
  first | refine g_endt ?_ | refine g_end ?_
  repeat (first | refine g_endt ?_ | refine g_end ?_ | refine g_then ?_ | refine g_in_normal ?_ | refine g_then_ret ?_ | refine g_in_ret ?_ | refine g_then_exit ?_ | refine g_in_exit rfl ?_ | refine g_in_exit_ne (by decide) ?_ | refine g_seq ?_ | refine g_region ?_ | refine g_block ?_ | refine g_ret ?_ | refine g_return_n ?_ | refine g_exit ?_ | refine g_skip ?_)
  refine o_move ?_
  refine o_peql rfl ?_
  first | refine g_endt ?_ | refine g_end ?_
  first | refine g_seq (g_cond_f rfl (by first | rfl | (simp; done) | (simp; omega) | (simp; assumption)) ?_) | refine g_cond_f rfl (by first | rfl | (simp; done) | (simp; omega) | (simp; assumption)) ?_
  repeat (first | refine g_endt ?_ | refine g_end ?_ | refine g_then ?_ | refine g_in_normal ?_ | refine g_then_ret ?_ | refine g_in_ret ?_ | refine g_then_exit ?_ | refine g_in_exit rfl ?_ | refine g_in_exit_ne (by decide) ?_ | refine g_seq ?_ | refine g_region ?_ | refine g_block ?_ | refine g_ret ?_ | refine g_return_n ?_ | refine g_exit ?_ | refine g_skip ?_)
  refine o_move ?_
  refine o_loadN (v := x.val) rfl rfl rfl ?_
  refine o_call (findES_spec p ys x hs hl) rfl rfl ?_
  rintro _ _ ⟨k, there, rfl, rfl, hk⟩
  refine o_extract rfl rfl ?_
  refine o_extract rfl rfl ?_
  refine o_assign ?_
  refine o_assign ?_
  first | refine g_endt ?_ | refine g_end ?_
  repeat (first | refine g_endt ?_ | refine g_end ?_ | refine g_then ?_ | refine g_in_normal ?_ | refine g_then_ret ?_ | refine g_in_ret ?_ | refine g_then_exit ?_ | refine g_in_exit rfl ?_ | refine g_in_exit_ne (by decide) ?_ | refine g_seq ?_ | refine g_region ?_ | refine g_block ?_ | refine g_ret ?_ | refine g_return_n ?_ | refine g_exit ?_ | refine g_skip ?_)
  exact ret2 (K := [SetAES p ys]) rfl (resT rfl) (resT rfl) ⟨k, there, rfl, rfl, hk⟩
end Go.Proofs.Ytdpbjoldgiikkaa
/- An ordered set's functions, told as functions of lists. -/
namespace Go.Proofs.Ytdpbjoldgiikkaa
open Go Go.Sl

theorem PlaceCES_spec (p : Nat) (ys : List ElemD) (x : ElemD) (hs : Srt ElemD.cmp ys) (hl : ys.length ≤ 1000000000) : Ctr Try.prog 45 [.pointer (some ⟨p, 0, none⟩), x.val] [SetAES p ys]
    (fun v M => ∃ k : Nat, v = .tuple #[.int .i64 (k : Int), .bool (hasC ElemD.cmp ys x)] ∧ M = [SetAES p ys]) := (PlaceES_spec p ys x hs hl).mono fun v M ⟨k, there, h1, h2, h3⟩ => by
  rw [h1, h2, hasC_of h3]
  exact ⟨k, rfl, rfl⟩
end Go.Proofs.Ytdpbjoldgiikkaa
/- A floating cell. Plain library, no program in sight. -/
namespace Go.Sl
open Go Go.Proofs

section
variable {w0 : World} {A : SProp} {ro : Option Nat} {P : Program} {all : Array Oper} {n : Nat} {ρ : Nat → Value} {ds : List Nat} {d : Option Tmp} {ty : TypeId} {pos : String} {af : Array Edge}
/-- A floating cell: what is said of it. -/
theorem fl_alloc {t : TypeId} {z : Value} [tz : TyZ P t z] {Lq : List SProp} (X : List SProp) :
    OStep w0 A ro P all n ds ρ (Lq ++ X) { dst := d, op := .alloc t, type := ty, pos := pos, after := af, guard := none }
      (fun v M => ∃ M', Ent (sl M) (sl (Lq ++ (X ++ M'))) ∧ ∃ b, v = .pointer (some ⟨b, 0, none⟩) ∧ M' = [cellsB b z.cells t]) := fun Q h =>
  o_alloc fun b => g_end (h _ _ ⟨[cellsB b z.cells t], sl_perm (by
    rw [← List.append_assoc]
    exact List.perm_append_comm (l₁ := [cellsB b z.cells t]) (l₂ := Lq ++ X)), b, rfl, rfl⟩)
theorem o_mul {Q : Exit → Act → World → Prop} {os : List Oper} {L : List SProp} {x y : Operand} {xt yt : TypeId} {a b c : Int} (hx : ev n ρ x = .int .i64 a) (hy : ev n ρ y = .int .i64 b) (hc : a * b = c) (h1 : -9223372036854775808 ≤ c) (h2 : c ≤ 9223372036854775807)
    (h : G w0 A L (fun w => runL ro P all Q os (act n (updo ρ d (.int .i64 c)) ds) w)) :
    G w0 A L (fun w => runL ro P all Q ({ dst := d, op := .binOp .mul xt x y yt, type := ty, pos := pos, after := af, guard := none } :: os) (act n ρ ds) w) :=
  o_mulw hx hy (by rw [hc, IntWalk.i64_in c ⟨h1, h2⟩]; exact h)
theorem o_eqlT {Q : Exit → Act → World → Prop} {os : List Oper} {L : List SProp} {x y : Operand} {xt yt : TypeId} {k : IntKind} {a b : Int} {t : Bool} (hx : ev n ρ x = .int k a) (hy : ev n ρ y = .int k b) (ht : (a == b) = t)
    (h : G w0 A L (fun w => runL ro P all Q os (act n (updo ρ d (.bool t)) ds) w)) :
    G w0 A L (fun w => runL ro P all Q ({ dst := d, op := .binOp .eql xt x y yt, type := ty, pos := pos, after := af, guard := none } :: os) (act n ρ ds) w) :=
  o_eql hx hy (by rw [ht]; exact h)
theorem o_neqT {Q : Exit → Act → World → Prop} {os : List Oper} {L : List SProp} {x y : Operand} {xt yt : TypeId} {k : IntKind} {a b : Int} {t : Bool} (hx : ev n ρ x = .int k a) (hy : ev n ρ y = .int k b) (ht : (a != b) = t)
    (h : G w0 A L (fun w => runL ro P all Q os (act n (updo ρ d (.bool t)) ds) w)) :
    G w0 A L (fun w => runL ro P all Q ({ dst := d, op := .binOp .neq xt x y yt, type := ty, pos := pos, after := af, guard := none } :: os) (act n ρ ds) w) :=
  o_neq hx hy (by rw [ht]; exact h)
end
end Go.Sl
