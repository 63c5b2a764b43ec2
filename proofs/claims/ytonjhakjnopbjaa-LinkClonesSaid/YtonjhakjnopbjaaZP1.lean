/- Parts of a proof, in order. -/
import Derived.Test.YtonjhakjnopbjaaZL4

set_option linter.unusedSimpArgs false
set_option linter.unusedVariables false
/- The document's own input elements: added, dropped. -/
namespace Go.Proofs.Ytonjhakjnopbjaa
open Go Go.Sl
attribute [local irreducible] Code.wpIn roundPost bodyPostM runL Ret Meets Begin

abbrev kerC (S : Option Addr) (n c : Nat) : Array Value := #[.pointer none, .slice S n c, .slice none 0 0, .slice none 0 0, .slice none 0 0, .int .i64 0]
def KerA (r : Nat) (ys : List ElemD) : SProp := ex fun t : Option Addr × Nat => sl [pu (ys.length ≤ t.2), cellsB r (kerC t.1 ys.length t.2) 54, psl encE 12 t.1 ys]
section
variable {w0 : World} {A : SProp} {L M : List SProp} {Φ : World → Prop}
theorem openK (r : Nat) (ys : List ElemD) [tk : Take1 L (KerA r ys) M] (h : ∀ S c, ys.length ≤ c → G w0 A (cellsB r (kerC S ys.length c) 54 :: psl encE 12 S ys :: M) Φ) : G w0 A L Φ :=
  G.perm tk.perm (G.ex fun ⟨S, c⟩ => G.open_sl (G.pu fun hc => h S c hc))
theorem shutK (r : Nat) (ys : List ElemD) (S : Option Addr) (c : Nat) {n : Nat} (hn : ys.length = n) (hc : n ≤ c) [tk : Take L [cellsB r (kerC S n c) 54, psl encE 12 S ys] M] (h : G w0 A (KerA r ys :: M) Φ) : G w0 A L Φ := by
  subst hn
  exact G.perm tk.perm (G.pu_in hc (G.ent (L' := KerA r ys :: M) ((sl_append_to [pu (ys.length ≤ c), cellsB r (kerC S ys.length c) 54, psl encE 12 S ys] M).trans (Ent.star (show Ent _ (KerA r ys) from fun _ _ x => ⟨(S, c), x⟩) (Ent.refl _))) h))
end
theorem W19_spec (t : ByteArray) : Ctr Try.prog 60 [.string t] [] (fun v M => v = (symW t).val ∧ M = []) := by
  refine spec_of Try.func60 rfl Try.ntmps60 rfl fun w0 F => ?_
  -- ponder/ponderref19.W
  repeat (first | refine g_endt ?_ | refine g_end ?_ | refine g_then ?_ | refine g_in_normal ?_ | refine g_then_ret ?_ | refine g_in_ret ?_ | refine g_then_exit ?_ | refine g_in_exit rfl ?_ | refine g_in_exit_ne (by decide) ?_ | refine g_seq ?_ | refine g_region ?_ | refine g_block ?_ | refine g_ret ?_ | refine g_return_n ?_ | refine g_exit ?_ | refine g_skip ?_)
  refine o_alloc fun r => ?_
  first | refine g_endt ?_ | refine g_end ?_
  repeat (first | refine g_endt ?_ | refine g_end ?_ | refine g_then ?_ | refine g_in_normal ?_ | refine g_then_ret ?_ | refine g_in_ret ?_ | refine g_then_exit ?_ | refine g_in_exit rfl ?_ | refine g_in_exit_ne (by decide) ?_ | refine g_seq ?_ | refine g_region ?_ | refine g_block ?_ | refine g_ret ?_ | refine g_return_n ?_ | refine g_exit ?_ | refine g_skip ?_)
  refine o_move ?_
  refine o_build ((symW t).val) (fun w => by kernel_rfl) ?_
  refine o_store (v := (symW t).val) rfl rfl rfl rfl rfl ?_
  first | refine g_endt ?_ | refine g_end ?_
  refine G.norm r (symW t).val.cells rfl ?_
  repeat (first | refine g_endt ?_ | refine g_end ?_ | refine g_then ?_ | refine g_in_normal ?_ | refine g_then_ret ?_ | refine g_in_ret ?_ | refine g_then_exit ?_ | refine g_in_exit rfl ?_ | refine g_in_exit_ne (by decide) ?_ | refine g_seq ?_ | refine g_region ?_ | refine g_block ?_ | refine g_ret ?_ | refine g_return_n ?_ | refine g_exit ?_ | refine g_skip ?_)
  exact ret1 (K := []) rfl (resCN (v := (symW t).val) rfl rfl rfl) ⟨rfl, rfl⟩
set_option maxHeartbeats 4000000 in
theorem kAdd_spec (r : Nat) (ys : List ElemD) (e : ElemD) (hs : Srt ElemD.cmp ys) (hl : ys.length ≤ 10000) (hb : e.small) : Ctr Try.prog 47 [.pointer (some ⟨r, 0, none⟩), e.val] [KerA r ys]
    (fun v M => v = .int .i64 (addN ys e) ∧ M = [KerA r (addL ys e)]) := by
  refine spec_of Try.func47 rfl Try.ntmps47 rfl fun w0 F => ?_
  -- (*ponder/ponderref25.Kernel).Add
  refine openK r ys fun S c hc => ?_
  repeat (first | refine g_endt ?_ | refine g_end ?_ | refine g_then ?_ | refine g_in_normal ?_ | refine g_then_ret ?_ | refine g_in_ret ?_ | refine g_then_exit ?_ | refine g_in_exit rfl ?_ | refine g_in_exit_ne (by decide) ?_ | refine g_seq ?_ | refine g_region ?_ | refine g_block ?_ | refine g_ret ?_ | refine g_return_n ?_ | refine g_exit ?_ | refine g_skip ?_)
  refine o_boxc e.val.cells rfl rfl fun q => ?_
  refine o_assign ?_
  first | refine g_endt ?_ | refine g_end ?_
  repeat (first | refine g_endt ?_ | refine g_end ?_ | refine g_then ?_ | refine g_in_normal ?_ | refine g_then_ret ?_ | refine g_in_ret ?_ | refine g_then_exit ?_ | refine g_in_exit rfl ?_ | refine g_in_exit_ne (by decide) ?_ | refine g_seq ?_ | refine g_block ?_ | refine g_ret ?_ | refine g_return_n ?_ | refine g_exit ?_ | refine g_skip ?_)
  refine g_cutk (σ := Unit) (ds' := []) (S := fun _ => [(0, .pointer (some ⟨r, 0, none⟩)), (3, .pointer (some ⟨q, 0, none⟩)), (23, .bool (badIn e))]) (H := fun _ => [cellsB r (kerC S ys.length c) 54, psl encE 12 S ys, cellsB q e.val.cells 33]) (ok := fun _ => True) ?_ ?_
  · cases hv : validE e with
    | false =>
      rw [show badIn e = true by simp [badIn, hv]]
      repeat (first | refine g_endt ?_ | refine g_end ?_ | refine g_then ?_ | refine g_in_normal ?_ | refine g_then_ret ?_ | refine g_in_ret ?_ | refine g_then_exit ?_ | refine g_in_exit rfl ?_ | refine g_in_exit_ne (by decide) ?_ | refine g_seq ?_ | refine g_region ?_ | refine g_block ?_ | refine g_ret ?_ | refine g_return_n ?_ | refine g_exit ?_ | refine g_skip ?_)
      refine g_draw [] [0,1,2,3,4,5,6,7,8,9,10,11,12,13,14,15,16] [cellsB q e.val.cells 33] mixed rfl ?_
      refine ob_q rfl rfl ⟨_, fun X Q h => o_loadN (v := e.val) rfl rfl rfl (g_end (h _ _ ⟨rfl, rfl⟩)), ?_⟩
      refine ob_q rfl rfl ⟨_, fun X Q h => o_call (ValidR_spec e hb) rfl rfl <| by rintro _ _ ⟨rfl, rfl⟩; exact (g_end (h _ _ ⟨rfl, rfl⟩)), ?_⟩
      refine ob_q rfl rfl ⟨_, fun X Q h => o_not rfl (g_end (h _ _ ⟨rfl, rfl⟩)), ?_⟩
      rw [hv]
      refine ob_q rfl rfl ⟨_, fun X Q h => o_move (g_end (h _ _ ⟨rfl, rfl⟩)), ?_⟩
      first | refine ob_q rfl rfl ⟨_, fun X Q h => o_want rfl rfl rfl rfl rfl <| o_field rfl (g_end (h _ _ ⟨rfl, rfl⟩)), ?_⟩ | refine ob_q rfl rfl ⟨_, fun X Q h => o_want rfl rfl rfl rfl rfl <| o_fieldR rfl (by omega) (g_end (h _ _ ⟨rfl, rfl⟩)), ?_⟩ | refine ob_q rfl rfl ⟨_, fun X Q h => o_unwanted rfl rfl rfl rfl rfl (g_end (h _ _ ⟨rfl, rfl⟩)), ?_⟩ | refine ob_q rfl rfl ⟨_, fun X Q h => o_undef rfl rfl rfl (g_end (h _ _ ⟨rfl, rfl⟩)), ?_⟩
      first | refine ob_q rfl rfl ⟨_, fun X Q h => o_unwanted rfl rfl rfl rfl rfl (g_end (h _ _ ⟨rfl, rfl⟩)), ?_⟩ | refine ob_q rfl rfl ⟨_, fun X Q h => o_undef rfl rfl rfl (g_end (h _ _ ⟨rfl, rfl⟩)), ?_⟩
      first | refine ob_q rfl rfl ⟨_, fun X Q h => o_pick_t rfl rfl (g_end (h _ _ ⟨rfl, rfl⟩)), ?_⟩ | refine ob_q rfl rfl ⟨_, fun X Q h => o_pick_f rfl rfl (g_end (h _ _ ⟨rfl, rfl⟩)), ?_⟩
      refine ob_q rfl rfl ⟨_, fun X Q h => o_move (g_end (h _ _ ⟨rfl, rfl⟩)), ?_⟩
      first | refine ob_q rfl rfl ⟨_, fun X Q h => o_want rfl rfl rfl rfl rfl <| o_field rfl (g_end (h _ _ ⟨rfl, rfl⟩)), ?_⟩ | refine ob_q rfl rfl ⟨_, fun X Q h => o_want rfl rfl rfl rfl rfl <| o_fieldR rfl (by omega) (g_end (h _ _ ⟨rfl, rfl⟩)), ?_⟩ | refine ob_q rfl rfl ⟨_, fun X Q h => o_unwanted rfl rfl rfl rfl rfl (g_end (h _ _ ⟨rfl, rfl⟩)), ?_⟩ | refine ob_q rfl rfl ⟨_, fun X Q h => o_undef rfl rfl rfl (g_end (h _ _ ⟨rfl, rfl⟩)), ?_⟩
      first | refine ob_q rfl rfl ⟨_, fun X Q h => o_unwanted rfl rfl rfl rfl rfl (g_end (h _ _ ⟨rfl, rfl⟩)), ?_⟩ | refine ob_q rfl rfl ⟨_, fun X Q h => o_undef rfl rfl rfl (g_end (h _ _ ⟨rfl, rfl⟩)), ?_⟩
      first | refine ob_q rfl rfl ⟨_, fun X Q h => o_pick_t rfl rfl (g_end (h _ _ ⟨rfl, rfl⟩)), ?_⟩ | refine ob_q rfl rfl ⟨_, fun X Q h => o_pick_f rfl rfl (g_end (h _ _ ⟨rfl, rfl⟩)), ?_⟩
      refine ob_q rfl rfl ⟨_, fun X Q h => o_move (g_end (h _ _ ⟨rfl, rfl⟩)), ?_⟩
      first | refine ob_q rfl rfl ⟨_, fun X Q h => o_want rfl rfl rfl rfl rfl <| o_field rfl (g_end (h _ _ ⟨rfl, rfl⟩)), ?_⟩ | refine ob_q rfl rfl ⟨_, fun X Q h => o_want rfl rfl rfl rfl rfl <| o_fieldR rfl (by omega) (g_end (h _ _ ⟨rfl, rfl⟩)), ?_⟩ | refine ob_q rfl rfl ⟨_, fun X Q h => o_unwanted rfl rfl rfl rfl rfl (g_end (h _ _ ⟨rfl, rfl⟩)), ?_⟩ | refine ob_q rfl rfl ⟨_, fun X Q h => o_undef rfl rfl rfl (g_end (h _ _ ⟨rfl, rfl⟩)), ?_⟩
      first | refine ob_q rfl rfl ⟨_, fun X Q h => o_unwanted rfl rfl rfl rfl rfl (g_end (h _ _ ⟨rfl, rfl⟩)), ?_⟩ | refine ob_q rfl rfl ⟨_, fun X Q h => o_undef rfl rfl rfl (g_end (h _ _ ⟨rfl, rfl⟩)), ?_⟩
      first | refine ob_q rfl rfl ⟨_, fun X Q h => o_unwanted rfl rfl rfl rfl rfl (g_end (h _ _ ⟨rfl, rfl⟩)), ?_⟩ | refine ob_q rfl rfl ⟨_, fun X Q h => o_undef rfl rfl rfl (g_end (h _ _ ⟨rfl, rfl⟩)), ?_⟩
      first | refine ob_q rfl rfl ⟨_, fun X Q h => o_unwanted rfl rfl rfl rfl rfl (g_end (h _ _ ⟨rfl, rfl⟩)), ?_⟩ | refine ob_q rfl rfl ⟨_, fun X Q h => o_undef rfl rfl rfl (g_end (h _ _ ⟨rfl, rfl⟩)), ?_⟩
      first | refine ob_q rfl rfl ⟨_, fun X Q h => o_pick_t rfl rfl (g_end (h _ _ ⟨rfl, rfl⟩)), ?_⟩ | refine ob_q rfl rfl ⟨_, fun X Q h => o_pick_f rfl rfl (g_end (h _ _ ⟨rfl, rfl⟩)), ?_⟩
      refine ob_nil ?_
      exact g_meets () trivial (Sat.mem ⟨rfl, rfl, rfl, trivial⟩)
    | true =>
      cases ha : e.acc with
      | true =>
        rw [show badIn e = true by simp [badIn, ha]]
        repeat (first | refine g_endt ?_ | refine g_end ?_ | refine g_then ?_ | refine g_in_normal ?_ | refine g_then_ret ?_ | refine g_in_ret ?_ | refine g_then_exit ?_ | refine g_in_exit rfl ?_ | refine g_in_exit_ne (by decide) ?_ | refine g_seq ?_ | refine g_region ?_ | refine g_block ?_ | refine g_ret ?_ | refine g_return_n ?_ | refine g_exit ?_ | refine g_skip ?_)
        refine g_draw [] [0,1,2,3,4,5,6,7,8,9,10,11,12,13,14,15,16] [cellsB q e.val.cells 33] mixed rfl ?_
        refine ob_q rfl rfl ⟨_, fun X Q h => o_loadN (v := e.val) rfl rfl rfl (g_end (h _ _ ⟨rfl, rfl⟩)), ?_⟩
        refine ob_q rfl rfl ⟨_, fun X Q h => o_call (ValidR_spec e hb) rfl rfl <| by rintro _ _ ⟨rfl, rfl⟩; exact (g_end (h _ _ ⟨rfl, rfl⟩)), ?_⟩
        refine ob_q rfl rfl ⟨_, fun X Q h => o_not rfl (g_end (h _ _ ⟨rfl, rfl⟩)), ?_⟩
        rw [hv]
        refine ob_q rfl rfl ⟨_, fun X Q h => o_move (g_end (h _ _ ⟨rfl, rfl⟩)), ?_⟩
        first | refine ob_q rfl rfl ⟨_, fun X Q h => o_want rfl rfl rfl rfl rfl <| o_field rfl (g_end (h _ _ ⟨rfl, rfl⟩)), ?_⟩ | refine ob_q rfl rfl ⟨_, fun X Q h => o_want rfl rfl rfl rfl rfl <| o_fieldR rfl (by omega) (g_end (h _ _ ⟨rfl, rfl⟩)), ?_⟩ | refine ob_q rfl rfl ⟨_, fun X Q h => o_unwanted rfl rfl rfl rfl rfl (g_end (h _ _ ⟨rfl, rfl⟩)), ?_⟩ | refine ob_q rfl rfl ⟨_, fun X Q h => o_undef rfl rfl rfl (g_end (h _ _ ⟨rfl, rfl⟩)), ?_⟩
        refine ob_q rfl rfl ⟨_, fun X Q h => o_want rfl rfl rfl rfl rfl <| o_load1 (v := .bool e.acc) rfl rfl (g_end (h _ _ ⟨rfl, rfl⟩)), ?_⟩
        first | refine ob_q rfl rfl ⟨_, fun X Q h => o_pick_t rfl rfl (g_end (h _ _ ⟨rfl, rfl⟩)), ?_⟩ | refine ob_q rfl rfl ⟨_, fun X Q h => o_pick_f rfl rfl (g_end (h _ _ ⟨rfl, rfl⟩)), ?_⟩
        rw [ha]
        refine ob_q rfl rfl ⟨_, fun X Q h => o_move (g_end (h _ _ ⟨rfl, rfl⟩)), ?_⟩
        first | refine ob_q rfl rfl ⟨_, fun X Q h => o_want rfl rfl rfl rfl rfl <| o_field rfl (g_end (h _ _ ⟨rfl, rfl⟩)), ?_⟩ | refine ob_q rfl rfl ⟨_, fun X Q h => o_want rfl rfl rfl rfl rfl <| o_fieldR rfl (by omega) (g_end (h _ _ ⟨rfl, rfl⟩)), ?_⟩ | refine ob_q rfl rfl ⟨_, fun X Q h => o_unwanted rfl rfl rfl rfl rfl (g_end (h _ _ ⟨rfl, rfl⟩)), ?_⟩ | refine ob_q rfl rfl ⟨_, fun X Q h => o_undef rfl rfl rfl (g_end (h _ _ ⟨rfl, rfl⟩)), ?_⟩
        first | refine ob_q rfl rfl ⟨_, fun X Q h => o_unwanted rfl rfl rfl rfl rfl (g_end (h _ _ ⟨rfl, rfl⟩)), ?_⟩ | refine ob_q rfl rfl ⟨_, fun X Q h => o_undef rfl rfl rfl (g_end (h _ _ ⟨rfl, rfl⟩)), ?_⟩
        first | refine ob_q rfl rfl ⟨_, fun X Q h => o_pick_t rfl rfl (g_end (h _ _ ⟨rfl, rfl⟩)), ?_⟩ | refine ob_q rfl rfl ⟨_, fun X Q h => o_pick_f rfl rfl (g_end (h _ _ ⟨rfl, rfl⟩)), ?_⟩
        refine ob_q rfl rfl ⟨_, fun X Q h => o_move (g_end (h _ _ ⟨rfl, rfl⟩)), ?_⟩
        first | refine ob_q rfl rfl ⟨_, fun X Q h => o_want rfl rfl rfl rfl rfl <| o_field rfl (g_end (h _ _ ⟨rfl, rfl⟩)), ?_⟩ | refine ob_q rfl rfl ⟨_, fun X Q h => o_want rfl rfl rfl rfl rfl <| o_fieldR rfl (by omega) (g_end (h _ _ ⟨rfl, rfl⟩)), ?_⟩ | refine ob_q rfl rfl ⟨_, fun X Q h => o_unwanted rfl rfl rfl rfl rfl (g_end (h _ _ ⟨rfl, rfl⟩)), ?_⟩ | refine ob_q rfl rfl ⟨_, fun X Q h => o_undef rfl rfl rfl (g_end (h _ _ ⟨rfl, rfl⟩)), ?_⟩
        first | refine ob_q rfl rfl ⟨_, fun X Q h => o_unwanted rfl rfl rfl rfl rfl (g_end (h _ _ ⟨rfl, rfl⟩)), ?_⟩ | refine ob_q rfl rfl ⟨_, fun X Q h => o_undef rfl rfl rfl (g_end (h _ _ ⟨rfl, rfl⟩)), ?_⟩
        first | refine ob_q rfl rfl ⟨_, fun X Q h => o_unwanted rfl rfl rfl rfl rfl (g_end (h _ _ ⟨rfl, rfl⟩)), ?_⟩ | refine ob_q rfl rfl ⟨_, fun X Q h => o_undef rfl rfl rfl (g_end (h _ _ ⟨rfl, rfl⟩)), ?_⟩
        first | refine ob_q rfl rfl ⟨_, fun X Q h => o_unwanted rfl rfl rfl rfl rfl (g_end (h _ _ ⟨rfl, rfl⟩)), ?_⟩ | refine ob_q rfl rfl ⟨_, fun X Q h => o_undef rfl rfl rfl (g_end (h _ _ ⟨rfl, rfl⟩)), ?_⟩
        first | refine ob_q rfl rfl ⟨_, fun X Q h => o_pick_t rfl rfl (g_end (h _ _ ⟨rfl, rfl⟩)), ?_⟩ | refine ob_q rfl rfl ⟨_, fun X Q h => o_pick_f rfl rfl (g_end (h _ _ ⟨rfl, rfl⟩)), ?_⟩
        refine ob_nil ?_
        exact g_meets () trivial (Sat.mem ⟨rfl, rfl, rfl, trivial⟩)
      | false =>
        cases hg : e.goal with
        | true =>
          rw [show badIn e = true by simp [badIn, hg]]
          repeat (first | refine g_endt ?_ | refine g_end ?_ | refine g_then ?_ | refine g_in_normal ?_ | refine g_then_ret ?_ | refine g_in_ret ?_ | refine g_then_exit ?_ | refine g_in_exit rfl ?_ | refine g_in_exit_ne (by decide) ?_ | refine g_seq ?_ | refine g_region ?_ | refine g_block ?_ | refine g_ret ?_ | refine g_return_n ?_ | refine g_exit ?_ | refine g_skip ?_)
          refine g_draw [] [0,1,2,3,4,5,6,7,8,9,10,11,12,13,14,15,16] [cellsB q e.val.cells 33] mixed rfl ?_
          refine ob_q rfl rfl ⟨_, fun X Q h => o_loadN (v := e.val) rfl rfl rfl (g_end (h _ _ ⟨rfl, rfl⟩)), ?_⟩
          refine ob_q rfl rfl ⟨_, fun X Q h => o_call (ValidR_spec e hb) rfl rfl <| by rintro _ _ ⟨rfl, rfl⟩; exact (g_end (h _ _ ⟨rfl, rfl⟩)), ?_⟩
          refine ob_q rfl rfl ⟨_, fun X Q h => o_not rfl (g_end (h _ _ ⟨rfl, rfl⟩)), ?_⟩
          rw [hv]
          refine ob_q rfl rfl ⟨_, fun X Q h => o_move (g_end (h _ _ ⟨rfl, rfl⟩)), ?_⟩
          first | refine ob_q rfl rfl ⟨_, fun X Q h => o_want rfl rfl rfl rfl rfl <| o_field rfl (g_end (h _ _ ⟨rfl, rfl⟩)), ?_⟩ | refine ob_q rfl rfl ⟨_, fun X Q h => o_want rfl rfl rfl rfl rfl <| o_fieldR rfl (by omega) (g_end (h _ _ ⟨rfl, rfl⟩)), ?_⟩ | refine ob_q rfl rfl ⟨_, fun X Q h => o_unwanted rfl rfl rfl rfl rfl (g_end (h _ _ ⟨rfl, rfl⟩)), ?_⟩ | refine ob_q rfl rfl ⟨_, fun X Q h => o_undef rfl rfl rfl (g_end (h _ _ ⟨rfl, rfl⟩)), ?_⟩
          refine ob_q rfl rfl ⟨_, fun X Q h => o_want rfl rfl rfl rfl rfl <| o_load1 (v := .bool e.acc) rfl rfl (g_end (h _ _ ⟨rfl, rfl⟩)), ?_⟩
          first | refine ob_q rfl rfl ⟨_, fun X Q h => o_pick_t rfl rfl (g_end (h _ _ ⟨rfl, rfl⟩)), ?_⟩ | refine ob_q rfl rfl ⟨_, fun X Q h => o_pick_f rfl rfl (g_end (h _ _ ⟨rfl, rfl⟩)), ?_⟩
          rw [ha]
          refine ob_q rfl rfl ⟨_, fun X Q h => o_move (g_end (h _ _ ⟨rfl, rfl⟩)), ?_⟩
          first | refine ob_q rfl rfl ⟨_, fun X Q h => o_want rfl rfl rfl rfl rfl <| o_field rfl (g_end (h _ _ ⟨rfl, rfl⟩)), ?_⟩ | refine ob_q rfl rfl ⟨_, fun X Q h => o_want rfl rfl rfl rfl rfl <| o_fieldR rfl (by omega) (g_end (h _ _ ⟨rfl, rfl⟩)), ?_⟩ | refine ob_q rfl rfl ⟨_, fun X Q h => o_unwanted rfl rfl rfl rfl rfl (g_end (h _ _ ⟨rfl, rfl⟩)), ?_⟩ | refine ob_q rfl rfl ⟨_, fun X Q h => o_undef rfl rfl rfl (g_end (h _ _ ⟨rfl, rfl⟩)), ?_⟩
          refine ob_q rfl rfl ⟨_, fun X Q h => o_want rfl rfl rfl rfl rfl <| o_load1 (v := .bool e.goal) rfl rfl (g_end (h _ _ ⟨rfl, rfl⟩)), ?_⟩
          first | refine ob_q rfl rfl ⟨_, fun X Q h => o_pick_t rfl rfl (g_end (h _ _ ⟨rfl, rfl⟩)), ?_⟩ | refine ob_q rfl rfl ⟨_, fun X Q h => o_pick_f rfl rfl (g_end (h _ _ ⟨rfl, rfl⟩)), ?_⟩
          rw [hg]
          refine ob_q rfl rfl ⟨_, fun X Q h => o_move (g_end (h _ _ ⟨rfl, rfl⟩)), ?_⟩
          first | refine ob_q rfl rfl ⟨_, fun X Q h => o_want rfl rfl rfl rfl rfl <| o_field rfl (g_end (h _ _ ⟨rfl, rfl⟩)), ?_⟩ | refine ob_q rfl rfl ⟨_, fun X Q h => o_want rfl rfl rfl rfl rfl <| o_fieldR rfl (by omega) (g_end (h _ _ ⟨rfl, rfl⟩)), ?_⟩ | refine ob_q rfl rfl ⟨_, fun X Q h => o_unwanted rfl rfl rfl rfl rfl (g_end (h _ _ ⟨rfl, rfl⟩)), ?_⟩ | refine ob_q rfl rfl ⟨_, fun X Q h => o_undef rfl rfl rfl (g_end (h _ _ ⟨rfl, rfl⟩)), ?_⟩
          first | refine ob_q rfl rfl ⟨_, fun X Q h => o_unwanted rfl rfl rfl rfl rfl (g_end (h _ _ ⟨rfl, rfl⟩)), ?_⟩ | refine ob_q rfl rfl ⟨_, fun X Q h => o_undef rfl rfl rfl (g_end (h _ _ ⟨rfl, rfl⟩)), ?_⟩
          first | refine ob_q rfl rfl ⟨_, fun X Q h => o_unwanted rfl rfl rfl rfl rfl (g_end (h _ _ ⟨rfl, rfl⟩)), ?_⟩ | refine ob_q rfl rfl ⟨_, fun X Q h => o_undef rfl rfl rfl (g_end (h _ _ ⟨rfl, rfl⟩)), ?_⟩
          first | refine ob_q rfl rfl ⟨_, fun X Q h => o_unwanted rfl rfl rfl rfl rfl (g_end (h _ _ ⟨rfl, rfl⟩)), ?_⟩ | refine ob_q rfl rfl ⟨_, fun X Q h => o_undef rfl rfl rfl (g_end (h _ _ ⟨rfl, rfl⟩)), ?_⟩
          first | refine ob_q rfl rfl ⟨_, fun X Q h => o_pick_t rfl rfl (g_end (h _ _ ⟨rfl, rfl⟩)), ?_⟩ | refine ob_q rfl rfl ⟨_, fun X Q h => o_pick_f rfl rfl (g_end (h _ _ ⟨rfl, rfl⟩)), ?_⟩
          refine ob_nil ?_
          exact g_meets () trivial (Sat.mem ⟨rfl, rfl, rfl, trivial⟩)
        | false =>
          rw [show badIn e = e.attr.beq opS by simp [badIn, hv, ha, hg]]
          repeat (first | refine g_endt ?_ | refine g_end ?_ | refine g_then ?_ | refine g_in_normal ?_ | refine g_then_ret ?_ | refine g_in_ret ?_ | refine g_then_exit ?_ | refine g_in_exit rfl ?_ | refine g_in_exit_ne (by decide) ?_ | refine g_seq ?_ | refine g_region ?_ | refine g_block ?_ | refine g_ret ?_ | refine g_return_n ?_ | refine g_exit ?_ | refine g_skip ?_)
          refine g_draw [] [0,1,2,3,4,5,6,7,8,9,10,11,12,13,14,15,16] [cellsB q e.val.cells 33] mixed rfl ?_
          refine ob_q rfl rfl ⟨_, fun X Q h => o_loadN (v := e.val) rfl rfl rfl (g_end (h _ _ ⟨rfl, rfl⟩)), ?_⟩
          refine ob_q rfl rfl ⟨_, fun X Q h => o_call (ValidR_spec e hb) rfl rfl <| by rintro _ _ ⟨rfl, rfl⟩; exact (g_end (h _ _ ⟨rfl, rfl⟩)), ?_⟩
          refine ob_q rfl rfl ⟨_, fun X Q h => o_not rfl (g_end (h _ _ ⟨rfl, rfl⟩)), ?_⟩
          rw [hv]
          refine ob_q rfl rfl ⟨_, fun X Q h => o_move (g_end (h _ _ ⟨rfl, rfl⟩)), ?_⟩
          first | refine ob_q rfl rfl ⟨_, fun X Q h => o_want rfl rfl rfl rfl rfl <| o_field rfl (g_end (h _ _ ⟨rfl, rfl⟩)), ?_⟩ | refine ob_q rfl rfl ⟨_, fun X Q h => o_want rfl rfl rfl rfl rfl <| o_fieldR rfl (by omega) (g_end (h _ _ ⟨rfl, rfl⟩)), ?_⟩ | refine ob_q rfl rfl ⟨_, fun X Q h => o_unwanted rfl rfl rfl rfl rfl (g_end (h _ _ ⟨rfl, rfl⟩)), ?_⟩ | refine ob_q rfl rfl ⟨_, fun X Q h => o_undef rfl rfl rfl (g_end (h _ _ ⟨rfl, rfl⟩)), ?_⟩
          refine ob_q rfl rfl ⟨_, fun X Q h => o_want rfl rfl rfl rfl rfl <| o_load1 (v := .bool e.acc) rfl rfl (g_end (h _ _ ⟨rfl, rfl⟩)), ?_⟩
          first | refine ob_q rfl rfl ⟨_, fun X Q h => o_pick_t rfl rfl (g_end (h _ _ ⟨rfl, rfl⟩)), ?_⟩ | refine ob_q rfl rfl ⟨_, fun X Q h => o_pick_f rfl rfl (g_end (h _ _ ⟨rfl, rfl⟩)), ?_⟩
          rw [ha]
          refine ob_q rfl rfl ⟨_, fun X Q h => o_move (g_end (h _ _ ⟨rfl, rfl⟩)), ?_⟩
          first | refine ob_q rfl rfl ⟨_, fun X Q h => o_want rfl rfl rfl rfl rfl <| o_field rfl (g_end (h _ _ ⟨rfl, rfl⟩)), ?_⟩ | refine ob_q rfl rfl ⟨_, fun X Q h => o_want rfl rfl rfl rfl rfl <| o_fieldR rfl (by omega) (g_end (h _ _ ⟨rfl, rfl⟩)), ?_⟩ | refine ob_q rfl rfl ⟨_, fun X Q h => o_unwanted rfl rfl rfl rfl rfl (g_end (h _ _ ⟨rfl, rfl⟩)), ?_⟩ | refine ob_q rfl rfl ⟨_, fun X Q h => o_undef rfl rfl rfl (g_end (h _ _ ⟨rfl, rfl⟩)), ?_⟩
          refine ob_q rfl rfl ⟨_, fun X Q h => o_want rfl rfl rfl rfl rfl <| o_load1 (v := .bool e.goal) rfl rfl (g_end (h _ _ ⟨rfl, rfl⟩)), ?_⟩
          first | refine ob_q rfl rfl ⟨_, fun X Q h => o_pick_t rfl rfl (g_end (h _ _ ⟨rfl, rfl⟩)), ?_⟩ | refine ob_q rfl rfl ⟨_, fun X Q h => o_pick_f rfl rfl (g_end (h _ _ ⟨rfl, rfl⟩)), ?_⟩
          rw [hg]
          refine ob_q rfl rfl ⟨_, fun X Q h => o_move (g_end (h _ _ ⟨rfl, rfl⟩)), ?_⟩
          first | refine ob_q rfl rfl ⟨_, fun X Q h => o_want rfl rfl rfl rfl rfl <| o_field rfl (g_end (h _ _ ⟨rfl, rfl⟩)), ?_⟩ | refine ob_q rfl rfl ⟨_, fun X Q h => o_want rfl rfl rfl rfl rfl <| o_fieldR rfl (by omega) (g_end (h _ _ ⟨rfl, rfl⟩)), ?_⟩ | refine ob_q rfl rfl ⟨_, fun X Q h => o_unwanted rfl rfl rfl rfl rfl (g_end (h _ _ ⟨rfl, rfl⟩)), ?_⟩ | refine ob_q rfl rfl ⟨_, fun X Q h => o_undef rfl rfl rfl (g_end (h _ _ ⟨rfl, rfl⟩)), ?_⟩
          refine ob_q rfl rfl ⟨_, fun X Q h => o_want rfl rfl rfl rfl rfl <| o_loadN (v := e.attr.val) rfl rfl rfl (g_end (h _ _ ⟨rfl, rfl⟩)), ?_⟩
          refine ob_q rfl rfl ⟨_, fun X Q h => o_want rfl rfl rfl rfl rfl <| o_call (W19_spec opS.text) rfl rfl <| by rintro _ _ ⟨rfl, rfl⟩; exact (g_end (h _ _ ⟨rfl, rfl⟩)), ?_⟩
          refine ob_q rfl rfl ⟨_, fun X Q h => o_want rfl rfl rfl rfl rfl <| o_eqty rfl rfl (eq_sym e.attr opS) (g_end (h _ _ ⟨rfl, rfl⟩)), ?_⟩
          first | refine ob_q rfl rfl ⟨_, fun X Q h => o_pick_t rfl rfl (g_end (h _ _ ⟨rfl, rfl⟩)), ?_⟩ | refine ob_q rfl rfl ⟨_, fun X Q h => o_pick_f rfl rfl (g_end (h _ _ ⟨rfl, rfl⟩)), ?_⟩
          refine ob_nil ?_
          exact g_meets () trivial (Sat.mem ⟨rfl, rfl, rfl, trivial⟩)
  intro _ ρ2 _
  cases hbad : badIn e with
  | true =>
    first | refine g_seq (g_cond_t rfl (by first | rfl | (simp; done) | (simp; omega) | (simp; assumption)) ?_) | refine g_cond_t rfl (by first | rfl | (simp; done) | (simp; omega) | (simp; assumption)) ?_
    repeat (first | refine g_endt ?_ | refine g_end ?_ | refine g_then ?_ | refine g_in_normal ?_ | refine g_then_ret ?_ | refine g_in_ret ?_ | refine g_then_exit ?_ | refine g_in_exit rfl ?_ | refine g_in_exit_ne (by decide) ?_ | refine g_seq ?_ | refine g_region ?_ | refine g_block ?_ | refine g_ret ?_ | refine g_return_n ?_ | refine g_exit ?_ | refine g_skip ?_)
    refine o_assign ?_
    first | refine g_endt ?_ | refine g_end ?_
    refine shutK r ys S c rfl hc ?_
    repeat (first | refine g_endt ?_ | refine g_end ?_ | refine g_then ?_ | refine g_in_normal ?_ | refine g_then_ret ?_ | refine g_in_ret ?_ | refine g_then_exit ?_ | refine g_in_exit rfl ?_ | refine g_in_exit_ne (by decide) ?_ | refine g_seq ?_ | refine g_region ?_ | refine g_block ?_ | refine g_ret ?_ | refine g_return_n ?_ | refine g_exit ?_ | refine g_skip ?_)
    exact ret1 (K := [KerA r ys]) rfl (resT (v := .int .i64 9) rfl) ⟨by simp [addN, hbad], by rw [addL_bad hbad]⟩
  | false =>
    first | refine g_seq (g_cond_f rfl (by first | rfl | (simp; done) | (simp; omega) | (simp; assumption)) ?_) | refine g_cond_f rfl (by first | rfl | (simp; done) | (simp; omega) | (simp; assumption)) ?_
    have hfi : (findE ys e).isSome = hasC ElemD.cmp ys e := getM_isSome
    repeat (first | refine g_endt ?_ | refine g_end ?_ | refine g_then ?_ | refine g_in_normal ?_ | refine g_then_ret ?_ | refine g_in_ret ?_ | refine g_then_exit ?_ | refine g_in_exit rfl ?_ | refine g_in_exit_ne (by decide) ?_ | refine g_seq ?_ | refine g_region ?_ | refine g_block ?_ | refine g_ret ?_ | refine g_return_n ?_ | refine g_exit ?_ | refine g_skip ?_)
    refine g_draw [9,10] [0,1,2,3,4,5,6,7,8,9,10,11] [cellsB r (kerC S ys.length c) 54, psl encE 12 S ys, cellsB q e.val.cells 33] mixed rfl ?_
    refine ob_q rfl rfl ⟨_, fun X Q h => o_move (g_end (h _ _ ⟨rfl, rfl⟩)), ?_⟩
    refine ob_q rfl rfl ⟨_, fun X Q h => o_nil rfl (g_end (h _ _ ⟨rfl, rfl⟩)), ?_⟩
    first | refine ob_q rfl rfl ⟨_, fun X Q h => o_field rfl (g_end (h _ _ ⟨rfl, rfl⟩)), ?_⟩ | refine ob_q rfl rfl ⟨_, fun X Q h => o_fieldR rfl (by omega) (g_end (h _ _ ⟨rfl, rfl⟩)), ?_⟩
    refine ob_q rfl rfl ⟨_, fun X Q h => o_load1 (v := .slice S ys.length c) rfl rfl (g_end (h _ _ ⟨rfl, rfl⟩)), ?_⟩
    refine ob_q rfl rfl ⟨_, fun X Q h => o_loadN (v := e.val) rfl rfl rfl (g_end (h _ _ ⟨rfl, rfl⟩)), ?_⟩
    refine ob_q rfl rfl ⟨_, fun X Q h => o_callp (FindE_spec S ys.length c ys e rfl (by omega)) rfl rfl <| by rintro _ _ ⟨rfl, rfl⟩; exact (g_end (h _ _ ⟨rfl, rfl⟩)), ?_⟩
    refine ob_q rfl rfl ⟨_, fun X Q h => o_move (g_end (h _ _ ⟨rfl, rfl⟩)), ?_⟩
    refine ob_q rfl rfl ⟨_, fun X Q h => o_extract rfl rfl (g_end (h _ _ ⟨rfl, rfl⟩)), ?_⟩
    refine ob_q rfl rfl ⟨_, fun X Q h => o_extract rfl rfl (g_end (h _ _ ⟨rfl, rfl⟩)), ?_⟩
    refine ob_l rfl rfl fun Qz hz => o_alloc fun a5 => ?_
    refine g_end (hz _ _ ⟨_, ob_fin, ?_⟩)
    clear hz Qz
    refine ob_l rfl rfl fun Qz hz => o_store (v := ((findE ys e).getD ElemD.zero).val) rfl rfl rfl rfl rfl ?_
    refine g_end (hz _ _ ⟨_, ob_fin, ?_⟩)
    clear hz Qz
    refine ob_q rfl rfl ⟨_, fun X Q h => o_assign (g_end (h _ _ ⟨rfl, rfl⟩)), ?_⟩
    refine ob_nil ?_
    repeat (first | refine g_endt ?_ | refine g_end ?_ | refine g_then ?_ | refine g_in_normal ?_ | refine g_then_ret ?_ | refine g_in_ret ?_ | refine g_then_exit ?_ | refine g_in_exit rfl ?_ | refine g_in_exit_ne (by decide) ?_ | refine g_seq ?_ | refine g_region ?_ | refine g_block ?_ | refine g_ret ?_ | refine g_return_n ?_ | refine g_exit ?_ | refine g_skip ?_)
    refine o_move ?_
    first | refine g_endt ?_ | refine g_end ?_
    cases hh : hasC ElemD.cmp ys e with
    | true =>
      first | refine g_seq (g_cond_t rfl (by rw [hfi, hh]) ?_) | refine g_cond_t rfl (by rw [hfi, hh]) ?_
      repeat (first | refine g_endt ?_ | refine g_end ?_ | refine g_then ?_ | refine g_in_normal ?_ | refine g_then_ret ?_ | refine g_in_ret ?_ | refine g_then_exit ?_ | refine g_in_exit rfl ?_ | refine g_in_exit_ne (by decide) ?_ | refine g_seq ?_ | refine g_region ?_ | refine g_block ?_ | refine g_ret ?_ | refine g_return_n ?_ | refine g_exit ?_ | refine g_skip ?_)
      refine o_assign ?_
      first | refine g_endt ?_ | refine g_end ?_
      refine shutK r ys S c rfl hc ?_
      repeat (first | refine g_endt ?_ | refine g_end ?_ | refine g_then ?_ | refine g_in_normal ?_ | refine g_then_ret ?_ | refine g_in_ret ?_ | refine g_then_exit ?_ | refine g_in_exit rfl ?_ | refine g_in_exit_ne (by decide) ?_ | refine g_seq ?_ | refine g_region ?_ | refine g_block ?_ | refine g_ret ?_ | refine g_return_n ?_ | refine g_exit ?_ | refine g_skip ?_)
      exact ret1 (K := [KerA r ys]) rfl (resT (v := .int .i64 3) rfl) ⟨by simp [addN, hbad, hh], by rw [addL_old hh]⟩
    | false =>
      first | refine g_seq (g_cond_f rfl (by rw [hfi, hh]) ?_) | refine g_cond_f rfl (by rw [hfi, hh]) ?_
      repeat (first | refine g_endt ?_ | refine g_end ?_ | refine g_then ?_ | refine g_in_normal ?_ | refine g_then_ret ?_ | refine g_in_ret ?_ | refine g_then_exit ?_ | refine g_in_exit rfl ?_ | refine g_in_exit_ne (by decide) ?_ | refine g_seq ?_ | refine g_region ?_ | refine g_block ?_ | refine g_ret ?_ | refine g_return_n ?_ | refine g_exit ?_ | refine g_skip ?_)
      refine o_move ?_
      refine o_nil rfl ?_
      first | refine o_field rfl ?_ | refine o_fieldR rfl (by omega) ?_
      refine o_load1 (v := .slice S ys.length c) rfl rfl ?_
      refine o_len rfl rfl ?_
      refine o_geq rfl rfl ?_
      first | refine g_endt ?_ | refine g_end ?_
      by_cases h64 : 64 ≤ ys.length
      · first | refine g_seq (g_cond_t rfl (by simp; omega) ?_) | refine g_cond_t rfl (by simp; omega) ?_
        repeat (first | refine g_endt ?_ | refine g_end ?_ | refine g_then ?_ | refine g_in_normal ?_ | refine g_then_ret ?_ | refine g_in_ret ?_ | refine g_then_exit ?_ | refine g_in_exit rfl ?_ | refine g_in_exit_ne (by decide) ?_ | refine g_seq ?_ | refine g_region ?_ | refine g_block ?_ | refine g_ret ?_ | refine g_return_n ?_ | refine g_exit ?_ | refine g_skip ?_)
        refine o_assign ?_
        first | refine g_endt ?_ | refine g_end ?_
        refine shutK r ys S c rfl hc ?_
        repeat (first | refine g_endt ?_ | refine g_end ?_ | refine g_then ?_ | refine g_in_normal ?_ | refine g_then_ret ?_ | refine g_in_ret ?_ | refine g_then_exit ?_ | refine g_in_exit rfl ?_ | refine g_in_exit_ne (by decide) ?_ | refine g_seq ?_ | refine g_region ?_ | refine g_block ?_ | refine g_ret ?_ | refine g_return_n ?_ | refine g_exit ?_ | refine g_skip ?_)
        have h7 : addN ys e = 7 := by simp [addN, hbad, hh, h64]
        exact ret1 (K := [KerA r ys]) rfl (resT (v := .int .i64 7) rfl) ⟨by rw [h7], by unfold addL; rw [if_neg (by rw [h7]; omega)]⟩
      · first | refine g_seq (g_cond_f rfl (by simp; omega) ?_) | refine g_cond_f rfl (by simp; omega) ?_
        have h0 : addN ys e = 0 := by simp [addN, hbad, hh, h64]
        repeat (first | refine g_endt ?_ | refine g_end ?_ | refine g_then ?_ | refine g_in_normal ?_ | refine g_then_ret ?_ | refine g_in_ret ?_ | refine g_then_exit ?_ | refine g_in_exit rfl ?_ | refine g_in_exit_ne (by decide) ?_ | refine g_seq ?_ | refine g_region ?_ | refine g_block ?_ | refine g_ret ?_ | refine g_return_n ?_ | refine g_exit ?_ | refine g_skip ?_)
        first | refine o_field rfl ?_ | refine o_fieldR rfl (by omega) ?_
        refine o_store (v := .int .i64 0) rfl rfl rfl rfl rfl ?_
        first | refine g_endt ?_ | refine g_end ?_
        refine G.norm q ({ e with tag := 0 } : ElemD).val.cells rfl ?_
        obtain ⟨e0, he0⟩ : ∃ e0 : ElemD, e0 = { e with tag := 0 } := ⟨_, rfl⟩
        rw [← he0]
        repeat (first | refine g_endt ?_ | refine g_end ?_ | refine g_then ?_ | refine g_in_normal ?_ | refine g_then_ret ?_ | refine g_in_ret ?_ | refine g_then_exit ?_ | refine g_in_exit rfl ?_ | refine g_in_exit_ne (by decide) ?_ | refine g_seq ?_ | refine g_region ?_ | refine g_block ?_ | refine g_ret ?_ | refine g_return_n ?_ | refine g_exit ?_ | refine g_skip ?_)
        refine g_draw [6,9] [0,1,2,3,4,5,6,7,8,9] [cellsB r (kerC S ys.length c) 54, psl encE 12 S ys, cellsB q e0.val.cells 33] mixed rfl ?_
        refine ob_q rfl rfl ⟨_, fun X Q h => o_move (g_end (h _ _ ⟨rfl, rfl⟩)), ?_⟩
        refine ob_q rfl rfl ⟨_, fun X Q h => o_move (g_end (h _ _ ⟨rfl, rfl⟩)), ?_⟩
        refine ob_q rfl rfl ⟨_, fun X Q h => o_nil rfl (g_end (h _ _ ⟨rfl, rfl⟩)), ?_⟩
        first | refine ob_q rfl rfl ⟨_, fun X Q h => o_field rfl (g_end (h _ _ ⟨rfl, rfl⟩)), ?_⟩ | refine ob_q rfl rfl ⟨_, fun X Q h => o_fieldR rfl (by omega) (g_end (h _ _ ⟨rfl, rfl⟩)), ?_⟩
        refine ob_q rfl rfl ⟨_, fun X Q h => o_load1 (v := .slice S ys.length c) rfl rfl (g_end (h _ _ ⟨rfl, rfl⟩)), ?_⟩
        refine ob_q rfl rfl ⟨_, fun X Q h => o_loadN (v := e0.val) rfl rfl rfl (g_end (h _ _ ⟨rfl, rfl⟩)), ?_⟩
        refine ob_l rfl rfl fun Qz hz => o_callp (PutE_spec S ys.length c ys e0 hs rfl hc (by omega)) rfl rfl ?_
        rintro _ _ ⟨T, d, hd, rfl, rfl⟩
        refine g_end (hz _ _ ⟨_, ob_fin, ?_⟩)
        clear hz Qz
        refine ob_q rfl rfl ⟨_, fun X Q h => o_nil rfl (g_end (h _ _ ⟨rfl, rfl⟩)), ?_⟩
        first | refine ob_q rfl rfl ⟨_, fun X Q h => o_field rfl (g_end (h _ _ ⟨rfl, rfl⟩)), ?_⟩ | refine ob_q rfl rfl ⟨_, fun X Q h => o_fieldR rfl (by omega) (g_end (h _ _ ⟨rfl, rfl⟩)), ?_⟩
        refine ob_s [cellsB r (kerC T (insC ElemD.cmp ys e0).length d) 54, psl encE 12 S ys, cellsB q e0.val.cells 33] rfl rfl rfl fun Qz hz => o_store (v := .slice T (insC ElemD.cmp ys e0).length d) rfl rfl rfl rfl rfl ?_
        refine G.norm r (kerC T (insC ElemD.cmp ys e0).length d) rfl ?_
        refine g_end (hz _ _ ⟨_, ob_fin, ?_⟩)
        clear hz Qz
        refine ob_nil ?_
        refine shutK r (insC ElemD.cmp ys e0) T d rfl hd ?_
        repeat (first | refine g_endt ?_ | refine g_end ?_ | refine g_then ?_ | refine g_in_normal ?_ | refine g_then_ret ?_ | refine g_in_ret ?_ | refine g_then_exit ?_ | refine g_in_exit rfl ?_ | refine g_in_exit_ne (by decide) ?_ | refine g_seq ?_ | refine g_region ?_ | refine g_block ?_ | refine g_ret ?_ | refine g_return_n ?_ | refine g_exit ?_ | refine g_skip ?_)
        refine o_assign ?_
        first | refine g_endt ?_ | refine g_end ?_
        repeat (first | refine g_endt ?_ | refine g_end ?_ | refine g_then ?_ | refine g_in_normal ?_ | refine g_then_ret ?_ | refine g_in_ret ?_ | refine g_then_exit ?_ | refine g_in_exit rfl ?_ | refine g_in_exit_ne (by decide) ?_ | refine g_seq ?_ | refine g_region ?_ | refine g_block ?_ | refine g_ret ?_ | refine g_return_n ?_ | refine g_exit ?_ | refine g_skip ?_)
        exact ret1 (K := [KerA r (insC ElemD.cmp ys e0)]) rfl (resT (v := .int .i64 0) rfl) ⟨by rw [h0], by unfold addL; rw [if_pos h0, he0]⟩
/-- One less. -/
theorem delC_same {ys : List ElemD} {e : ElemD} (h : hasC ElemD.cmp ys e = false) : delC ElemD.cmp ys e = ys := by
  unfold delC
  rw [List.filter_eq_self]
  intro y hy
  have := List.any_eq_false.1 (show ys.any (fun y => decide (ElemD.cmp y e = 0)) = false from h) y hy
  simpa using this
theorem delC_short {ys : List ElemD} {e : ElemD} (h : hasC ElemD.cmp ys e = true) : (delC ElemD.cmp ys e).length < ys.length := by
  unfold delC
  obtain ⟨y, hy, he⟩ := List.any_eq_true.1 (show (ys.any fun y => decide (ElemD.cmp y e = 0)) = true from h)
  rw [← List.countP_eq_length_filter]
  refine Nat.lt_of_le_of_ne List.countP_le_length fun hc => ?_
  have := List.countP_eq_length.1 hc y hy
  rw [he] at this
  cases this
set_option maxHeartbeats 4000000 in
theorem kDrop_spec (r : Nat) (ys : List ElemD) (e : ElemD) (hl : ys.length ≤ 10000) : Ctr Try.prog 46 [.pointer (some ⟨r, 0, none⟩), e.val] [KerA r ys]
    (fun v M => v = .int .i64 (if hasC ElemD.cmp ys e then 0 else 4) ∧ M = [KerA r (delC ElemD.cmp ys e)]) := by
  refine spec_of Try.func46 rfl Try.ntmps46 rfl fun w0 F => ?_
  -- (*ponder/ponderref25.Kernel).Drop
  refine openK r ys fun S c hc => ?_
  repeat (first | refine g_endt ?_ | refine g_end ?_ | refine g_then ?_ | refine g_in_normal ?_ | refine g_then_ret ?_ | refine g_in_ret ?_ | refine g_then_exit ?_ | refine g_in_exit rfl ?_ | refine g_in_exit_ne (by decide) ?_ | refine g_seq ?_ | refine g_region ?_ | refine g_block ?_ | refine g_ret ?_ | refine g_return_n ?_ | refine g_exit ?_ | refine g_skip ?_)
  refine o_boxc e.val.cells rfl rfl fun q => ?_
  refine o_assign ?_
  first | refine g_endt ?_ | refine g_end ?_
  repeat (first | refine g_endt ?_ | refine g_end ?_ | refine g_then ?_ | refine g_in_normal ?_ | refine g_then_ret ?_ | refine g_in_ret ?_ | refine g_then_exit ?_ | refine g_in_exit rfl ?_ | refine g_in_exit_ne (by decide) ?_ | refine g_seq ?_ | refine g_region ?_ | refine g_block ?_ | refine g_ret ?_ | refine g_return_n ?_ | refine g_exit ?_ | refine g_skip ?_)
  refine o_assign ?_
  first | refine g_endt ?_ | refine g_end ?_
  repeat (first | refine g_endt ?_ | refine g_end ?_ | refine g_then ?_ | refine g_in_normal ?_ | refine g_then_ret ?_ | refine g_in_ret ?_ | refine g_then_exit ?_ | refine g_in_exit rfl ?_ | refine g_in_exit_ne (by decide) ?_ | refine g_seq ?_ | refine g_region ?_ | refine g_block ?_ | refine g_ret ?_ | refine g_return_n ?_ | refine g_exit ?_ | refine g_skip ?_)
  refine o_assign ?_
  first | refine g_endt ?_ | refine g_end ?_
  refine G.nil_slice 33 encE 12 ?_
  repeat (first | refine g_endt ?_ | refine g_end ?_ | refine g_then ?_ | refine g_in_normal ?_ | refine g_then_ret ?_ | refine g_in_ret ?_ | refine g_then_exit ?_ | refine g_in_exit rfl ?_ | refine g_in_exit_ne (by decide) ?_ | refine g_seq ?_ | refine g_region ?_ | refine g_block ?_ | refine g_ret ?_ | refine g_return_n ?_ | refine g_exit ?_ | refine g_skip ?_)
  refine g_loop (σ := {t : Nat × Option Addr × Nat // t.1 ≤ ys.length}) (S := fun t => [(0, .pointer (some ⟨r, 0, none⟩)), (3, .pointer (some ⟨q, 0, none⟩)), (5, .slice t.1.2.1 (delC ElemD.cmp (ys.take t.1.1) e).length t.1.2.2), (6, .int .i64 (t.1.1 : Int))])
    (H := fun t => [osl 33 encE 12 t.1.2.1 t.1.2.2 (delC ElemD.cmp (ys.take t.1.1) e), cellsB r (kerC S ys.length c) 54, psl encE 12 S ys, cellsB q e.val.cells 33]) (μ := fun t => ys.length - t.1.1) (s0 := ⟨(0, none, 0), Nat.zero_le _⟩) (Sat.mem ⟨rfl, rfl, rfl, rfl, trivial⟩)
    (t := (inferInstance : Take _ [osl 33 encE 12 none 0 [], cellsB r (kerC S ys.length c) 54, psl encE 12 S ys, cellsB q e.val.cells 33] _)) ?_
  rintro ⟨⟨i, U, u⟩, hi⟩ ρ'
  dsimp only at hi ⊢
  have hdl : (delC ElemD.cmp (ys.take i) e).length ≤ (ys.take i).length := List.length_filter_le _ _
  have hti : (ys.take i).length ≤ i := by simp; omega
  repeat (first | refine g_endt ?_ | refine g_end ?_ | refine g_then ?_ | refine g_in_normal ?_ | refine g_then_ret ?_ | refine g_in_ret ?_ | refine g_then_exit ?_ | refine g_in_exit rfl ?_ | refine g_in_exit_ne (by decide) ?_ | refine g_seq ?_ | refine g_region ?_ | refine g_block ?_ | refine g_ret ?_ | refine g_return_n ?_ | refine g_exit ?_ | refine g_skip ?_)
  refine o_move ?_
  refine o_move ?_
  refine o_nil rfl ?_
  first | refine o_field rfl ?_ | refine o_fieldR rfl (by omega) ?_
  refine o_load1 (v := .slice S ys.length c) rfl rfl ?_
  refine o_len rfl rfl ?_
  refine o_lss rfl rfl ?_
  first | refine g_endt ?_ | refine g_end ?_
  by_cases hio : i < ys.length
  · first | refine g_seq (g_cond_t rfl (by first | rfl | (simp; done) | (simp; omega) | (simp; assumption)) ?_) | refine g_cond_t rfl (by first | rfl | (simp; done) | (simp; omega) | (simp; assumption)) ?_
    obtain ⟨x, hxi⟩ : ∃ x, ys[i]? = some x := ⟨_, List.getElem?_eq_getElem hio⟩
    have hsn : delC ElemD.cmp (ys.take (i + 1)) e = delC ElemD.cmp (ys.take i) e ++ (if x.cmp e = 0 then [] else [x]) := by
      unfold delC
      rw [List.take_add_one, hxi, List.filter_append]
      by_cases h : x.cmp e = 0 <;> simp [h]
    repeat (first | refine g_endt ?_ | refine g_end ?_ | refine g_then ?_ | refine g_in_normal ?_ | refine g_then_ret ?_ | refine g_in_ret ?_ | refine g_then_exit ?_ | refine g_in_exit rfl ?_ | refine g_in_exit_ne (by decide) ?_ | refine g_seq ?_ | refine g_region ?_ | refine g_block ?_ | refine g_ret ?_ | refine g_return_n ?_ | refine g_exit ?_ | refine g_skip ?_)
    refine g_draw [] [0,1,2,3,4,5,6,7,8,9] [cellsB r (kerC S ys.length c) 54, psl encE 12 S ys, cellsB q e.val.cells 33] mixed rfl ?_
    refine ob_q rfl rfl ⟨_, fun X Q h => o_move (g_end (h _ _ ⟨rfl, rfl⟩)), ?_⟩
    refine ob_q rfl rfl ⟨_, fun X Q h => o_nil rfl (g_end (h _ _ ⟨rfl, rfl⟩)), ?_⟩
    first | refine ob_q rfl rfl ⟨_, fun X Q h => o_field rfl (g_end (h _ _ ⟨rfl, rfl⟩)), ?_⟩ | refine ob_q rfl rfl ⟨_, fun X Q h => o_fieldR rfl (by omega) (g_end (h _ _ ⟨rfl, rfl⟩)), ?_⟩
    refine ob_q rfl rfl ⟨_, fun X Q h => o_load1 (v := .slice S ys.length c) rfl rfl (g_end (h _ _ ⟨rfl, rfl⟩)), ?_⟩
    refine ob_q rfl rfl ⟨_, fun X Q h => o_move (g_end (h _ _ ⟨rfl, rfl⟩)), ?_⟩
    refine ob_q rfl rfl ⟨_, fun X Q h => o_indexR (ys := ys) (i := i) rfl rfl rfl hio rfl rfl (g_end (h _ _ ⟨rfl, rfl⟩)), ?_⟩
    refine ob_q rfl rfl ⟨_, fun X Q h => o_loadE (ys := ys) rfl rfl hxi (g_end (h _ _ ⟨rfl, rfl⟩)), ?_⟩
    refine ob_q rfl rfl ⟨_, fun X Q h => o_loadN (v := e.val) rfl rfl rfl (g_end (h _ _ ⟨rfl, rfl⟩)), ?_⟩
    refine ob_q rfl rfl ⟨_, fun X Q h => o_call (One_spec x e) rfl rfl <| by rintro _ _ ⟨rfl, rfl⟩; exact (g_end (h _ _ ⟨rfl, rfl⟩)), ?_⟩
    refine ob_q rfl rfl ⟨_, fun X Q h => o_not rfl (g_end (h _ _ ⟨rfl, rfl⟩)), ?_⟩
    refine ob_nil ?_
    by_cases hxe : x.cmp e = 0
    · first | refine g_seq (g_cond_f rfl (by simp [hxe]) ?_) | refine g_cond_f rfl (by simp [hxe]) ?_
      rw [if_pos hxe, List.append_nil] at hsn
      rw [← hsn]
      repeat (first | refine g_endt ?_ | refine g_end ?_ | refine g_then ?_ | refine g_in_normal ?_ | refine g_then_ret ?_ | refine g_in_ret ?_ | refine g_then_exit ?_ | refine g_in_exit rfl ?_ | refine g_in_exit_ne (by decide) ?_ | refine g_seq ?_ | refine g_region ?_ | refine g_block ?_ | refine g_ret ?_ | refine g_return_n ?_ | refine g_exit ?_ | refine g_skip ?_)
      refine o_move ?_
      refine o_add (c := ((i + 1 : Nat) : Int)) rfl rfl (by omega) (by omega) (by omega) ?_
      refine o_assign ?_
      first | refine g_endt ?_ | refine g_end ?_
      repeat (first | refine g_endt ?_ | refine g_end ?_ | refine g_then ?_ | refine g_in_normal ?_ | refine g_then_ret ?_ | refine g_in_ret ?_ | refine g_then_exit ?_ | refine g_in_exit rfl ?_ | refine g_in_exit_ne (by decide) ?_ | refine g_seq ?_ | refine g_region ?_ | refine g_block ?_ | refine g_ret ?_ | refine g_return_n ?_ | refine g_exit ?_ | refine g_skip ?_)
      exact g_meets (⟨(i + 1, U, u), hio⟩) (by first | exact trivial | (dsimp only; omega)) (Sat.mem (by repeat (first | exact trivial | refine And.intro rfl ?_)))
    · first | refine g_seq (g_cond_t rfl (by simp [hxe]) ?_) | refine g_cond_t rfl (by simp [hxe]) ?_
      rw [if_neg hxe] at hsn
      generalize delC ElemD.cmp (ys.take i) e = us at hsn hdl ⊢
      repeat (first | refine g_endt ?_ | refine g_end ?_ | refine g_then ?_ | refine g_in_normal ?_ | refine g_then_ret ?_ | refine g_in_ret ?_ | refine g_then_exit ?_ | refine g_in_exit rfl ?_ | refine g_in_exit_ne (by decide) ?_ | refine g_seq ?_ | refine g_region ?_ | refine g_block ?_ | refine g_ret ?_ | refine g_return_n ?_ | refine g_exit ?_ | refine g_skip ?_)
      refine o_move ?_
      refine o_move ?_
      refine o_nil rfl ?_
      first | refine o_field rfl ?_ | refine o_fieldR rfl (by omega) ?_
      refine o_load1 (v := .slice S ys.length c) rfl rfl ?_
      refine o_move ?_
      refine o_indexR (ys := ys) (i := i) rfl rfl rfl hio rfl rfl ?_
      refine o_loadE (ys := ys) rfl rfl hxi ?_
      refine o_litP (e := 33) encE [x] (x).val.cells (fun w => by kernel_rfl) (by simp [encE]) (by simp [maxLen]) fun _ => ?_
      refine o_append (xs := us) (ys := [x]) (by first | rfl | (simp only [List.length_map, List.length_take, List.length_append]; first | rfl | (congr 1; omega))) rfl rfl rfl rfl (fun _ => .inr trivial) (by simp [maxLen]; omega) (by simp; omega) fun U2 u2 => ?_
      refine o_assign ?_
      first | refine g_endt ?_ | refine g_end ?_
      rw [← hsn]
      repeat (first | refine g_endt ?_ | refine g_end ?_ | refine g_then ?_ | refine g_in_normal ?_ | refine g_then_ret ?_ | refine g_in_ret ?_ | refine g_then_exit ?_ | refine g_in_exit rfl ?_ | refine g_in_exit_ne (by decide) ?_ | refine g_seq ?_ | refine g_region ?_ | refine g_block ?_ | refine g_ret ?_ | refine g_return_n ?_ | refine g_exit ?_ | refine g_skip ?_)
      refine o_move ?_
      refine o_add (c := ((i + 1 : Nat) : Int)) rfl rfl (by omega) (by omega) (by omega) ?_
      refine o_assign ?_
      first | refine g_endt ?_ | refine g_end ?_
      repeat (first | refine g_endt ?_ | refine g_end ?_ | refine g_then ?_ | refine g_in_normal ?_ | refine g_then_ret ?_ | refine g_in_ret ?_ | refine g_then_exit ?_ | refine g_in_exit rfl ?_ | refine g_in_exit_ne (by decide) ?_ | refine g_seq ?_ | refine g_region ?_ | refine g_block ?_ | refine g_ret ?_ | refine g_return_n ?_ | refine g_exit ?_ | refine g_skip ?_)
      exact g_meets ⟨(i + 1, U2, u2), hio⟩ (by show ys.length - (i + 1) < ys.length - i; omega) (Sat.mem ⟨rfl, rfl, (show Value.slice U2 (us.length + 1) u2 = Value.slice U2 (delC ElemD.cmp (ys.take (i + 1)) e).length u2 by rw [hsn, List.length_append]; rfl), rfl, trivial⟩)
  · first | refine g_seq (g_cond_f rfl (by simp; omega) ?_) | refine g_cond_f rfl (by simp; omega) ?_
    rw [show ys.take i = ys from List.take_of_length_le (by omega)]
    refine G.bring [osl 33 encE 12 U u (delC ElemD.cmp ys e)] ?_
    refine G.frzc fun hroom => ?_
    repeat (first | refine g_endt ?_ | refine g_end ?_ | refine g_then ?_ | refine g_in_normal ?_ | refine g_then_ret ?_ | refine g_in_ret ?_ | refine g_then_exit ?_ | refine g_in_exit rfl ?_ | refine g_in_exit_ne (by decide) ?_ | refine g_seq ?_ | refine g_region ?_ | refine g_block ?_ | refine g_ret ?_ | refine g_return_n ?_ | refine g_exit ?_ | refine g_skip ?_)
    refine o_move ?_
    refine o_len rfl rfl ?_
    refine o_move ?_
    refine o_nil rfl ?_
    first | refine o_field rfl ?_ | refine o_fieldR rfl (by omega) ?_
    refine o_load1 (v := .slice S ys.length c) rfl rfl ?_
    refine o_len rfl rfl ?_
    refine o_eql rfl rfl ?_
    first | refine g_endt ?_ | refine g_end ?_
    cases hh : hasC ElemD.cmp ys e with
    | true =>
      have hlt := delC_short hh
      first | refine g_seq (g_cond_f rfl (by simp; omega) ?_) | refine g_cond_f rfl (by simp; omega) ?_
      repeat (first | refine g_endt ?_ | refine g_end ?_ | refine g_then ?_ | refine g_in_normal ?_ | refine g_then_ret ?_ | refine g_in_ret ?_ | refine g_then_exit ?_ | refine g_in_exit rfl ?_ | refine g_in_exit_ne (by decide) ?_ | refine g_seq ?_ | refine g_region ?_ | refine g_block ?_ | refine g_ret ?_ | refine g_return_n ?_ | refine g_exit ?_ | refine g_skip ?_)
      refine o_move ?_
      refine o_move ?_
      refine o_nil rfl ?_
      first | refine o_field rfl ?_ | refine o_fieldR rfl (by omega) ?_
      refine o_store (v := .slice U (delC ElemD.cmp ys e).length u) rfl rfl rfl rfl rfl ?_
      first | refine g_endt ?_ | refine g_end ?_
      refine G.norm r (kerC U (delC ElemD.cmp ys e).length u) rfl ?_
      refine shutK r (delC ElemD.cmp ys e) U u rfl hroom ?_
      repeat (first | refine g_endt ?_ | refine g_end ?_ | refine g_then ?_ | refine g_in_normal ?_ | refine g_then_ret ?_ | refine g_in_ret ?_ | refine g_then_exit ?_ | refine g_in_exit rfl ?_ | refine g_in_exit_ne (by decide) ?_ | refine g_seq ?_ | refine g_region ?_ | refine g_block ?_ | refine g_ret ?_ | refine g_return_n ?_ | refine g_exit ?_ | refine g_skip ?_)
      refine o_assign ?_
      first | refine g_endt ?_ | refine g_end ?_
      repeat (first | refine g_endt ?_ | refine g_end ?_ | refine g_then ?_ | refine g_in_normal ?_ | refine g_then_ret ?_ | refine g_in_ret ?_ | refine g_then_exit ?_ | refine g_in_exit rfl ?_ | refine g_in_exit_ne (by decide) ?_ | refine g_seq ?_ | refine g_region ?_ | refine g_block ?_ | refine g_ret ?_ | refine g_return_n ?_ | refine g_exit ?_ | refine g_skip ?_)
      exact ret1 (K := [KerA r (delC ElemD.cmp ys e)]) rfl (resT (v := .int .i64 0) rfl) ⟨rfl, rfl⟩
    | false =>
      rw [delC_same hh]
      first | refine g_seq (g_cond_t rfl (by simp) ?_) | refine g_cond_t rfl (by simp) ?_
      repeat (first | refine g_endt ?_ | refine g_end ?_ | refine g_then ?_ | refine g_in_normal ?_ | refine g_then_ret ?_ | refine g_in_ret ?_ | refine g_then_exit ?_ | refine g_in_exit rfl ?_ | refine g_in_exit_ne (by decide) ?_ | refine g_seq ?_ | refine g_region ?_ | refine g_block ?_ | refine g_ret ?_ | refine g_return_n ?_ | refine g_exit ?_ | refine g_skip ?_)
      refine o_assign ?_
      first | refine g_endt ?_ | refine g_end ?_
      refine shutK r ys S c rfl hc ?_
      repeat (first | refine g_endt ?_ | refine g_end ?_ | refine g_then ?_ | refine g_in_normal ?_ | refine g_then_ret ?_ | refine g_in_ret ?_ | refine g_then_exit ?_ | refine g_in_exit rfl ?_ | refine g_in_exit_ne (by decide) ?_ | refine g_seq ?_ | refine g_region ?_ | refine g_block ?_ | refine g_ret ?_ | refine g_return_n ?_ | refine g_exit ?_ | refine g_skip ?_)
      exact ret1 (K := [KerA r ys]) rfl (resT (v := .int .i64 4) rfl) ⟨rfl, rfl⟩
end Go.Proofs.Ytonjhakjnopbjaa
/- Acts of input elements, played. -/
namespace Go.Proofs.Ytonjhakjnopbjaa
open Go Go.Sl
attribute [local irreducible] Code.wpIn roundPost bodyPostM runL Ret Meets Begin

structure LkD where
  d : Int
  e : ElemD
def encK (a : LkD) : List Value := .int .i64 a.d :: a.e.val.cells.toList
instance : EncLen encK 13 := ⟨fun _ => rfl, fun e u h => by simp [encK, ElemD.val, Value.cells] at h; rcases h with h | h | h | h | h | h | h | h | h | h | h | h | h <;> subst h <;> rfl⟩
def lightK (l : List LkD) (most : Nat) : Bool := decide (l.length ≤ most) && l.all fun a => shortE a.e
def stepK (ys : List ElemD) (a : LkD) : List ElemD := if (a.d % 4).toNat = 3 then delC ElemD.cmp ys a.e else addL ys a.e
def playK (ys : List ElemD) (l : List LkD) : List ElemD := l.foldl stepK ys
theorem stepK_srt {ys : List ElemD} (h : Srt ElemD.cmp ys) (a : LkD) : Srt ElemD.cmp (stepK ys a) := by
  unfold stepK
  split
  · exact h.filter _
  · exact addL_srt a.e h
theorem stepK_len (ys : List ElemD) (a : LkD) : (stepK ys a).length ≤ ys.length + 1 := by
  unfold stepK
  split
  · exact Nat.le_trans (List.length_filter_le _ _) (by omega)
  · exact addL_len ys a.e
theorem playK_facts : ∀ (l : List LkD) (ys : List ElemD), Srt ElemD.cmp ys → Srt ElemD.cmp (playK ys l) ∧ (playK ys l).length ≤ ys.length + l.length
  | [], ys, h => ⟨h, by simp [playK]⟩
  | a :: l, ys, h => by
    obtain ⟨h1, h2⟩ := playK_facts l (stepK ys a) (stepK_srt h a)
    have := stepK_len ys a
    refine ⟨h1, ?_⟩
    show (playK (stepK ys a) l).length ≤ _
    simp only [List.length_cons]
    omega
theorem playK_take {ys : List ElemD} {l : List LkD} {i : Nat} {a : LkD} (ha : l[i]? = some a) : playK ys (l.take (i + 1)) = stepK (playK ys (l.take i)) a := by
  rw [List.take_add_one, ha]
  simp [playK, List.foldl_append]
theorem lightK_spec (A : Option Addr) (n c most : Nat) (l : List LkD) (hl : l.length = n) (hm : n ≤ 9223372036854775807) (hk : most ≤ 1000000) : Ctr Try.prog 24 [.slice A n c, .int .i64 (most : Int)] [psl encK 13 A l] (fun v M => v = .bool (lightK l most) ∧ M = []) := by
  refine spec_of Try.func24 rfl Try.ntmps24 rfl fun w0 F => ?_
  -- ponder/ponderlaw26.light
  repeat (first | refine g_endt ?_ | refine g_end ?_ | refine g_then ?_ | refine g_in_normal ?_ | refine g_then_ret ?_ | refine g_in_ret ?_ | refine g_then_exit ?_ | refine g_in_exit rfl ?_ | refine g_in_exit_ne (by decide) ?_ | refine g_seq ?_ | refine g_region ?_ | refine g_block ?_ | refine g_ret ?_ | refine g_return_n ?_ | refine g_exit ?_ | refine g_skip ?_)
  refine o_assign ?_
  first | refine g_endt ?_ | refine g_end ?_
  repeat (first | refine g_endt ?_ | refine g_end ?_ | refine g_then ?_ | refine g_in_normal ?_ | refine g_then_ret ?_ | refine g_in_ret ?_ | refine g_then_exit ?_ | refine g_in_exit rfl ?_ | refine g_in_exit_ne (by decide) ?_ | refine g_seq ?_ | refine g_region ?_ | refine g_block ?_ | refine g_ret ?_ | refine g_return_n ?_ | refine g_exit ?_ | refine g_skip ?_)
  refine o_move ?_
  refine o_len rfl rfl ?_
  refine o_move ?_
  refine o_gtr rfl rfl ?_
  first | refine g_endt ?_ | refine g_end ?_
  by_cases h1 : most < n
  · first | refine g_seq (g_cond_t rfl (by first | rfl | (simp; done) | (simp; omega) | (simp; assumption)) ?_) | refine g_cond_t rfl (by first | rfl | (simp; done) | (simp; omega) | (simp; assumption)) ?_
    repeat (first | refine g_endt ?_ | refine g_end ?_ | refine g_then ?_ | refine g_in_normal ?_ | refine g_then_ret ?_ | refine g_in_ret ?_ | refine g_then_exit ?_ | refine g_in_exit rfl ?_ | refine g_in_exit_ne (by decide) ?_ | refine g_seq ?_ | refine g_region ?_ | refine g_block ?_ | refine g_ret ?_ | refine g_return_n ?_ | refine g_exit ?_ | refine g_skip ?_)
    refine o_assign ?_
    first | refine g_endt ?_ | refine g_end ?_
    repeat (first | refine g_endt ?_ | refine g_end ?_ | refine g_then ?_ | refine g_in_normal ?_ | refine g_then_ret ?_ | refine g_in_ret ?_ | refine g_then_exit ?_ | refine g_in_exit rfl ?_ | refine g_in_exit_ne (by decide) ?_ | refine g_seq ?_ | refine g_region ?_ | refine g_block ?_ | refine g_ret ?_ | refine g_return_n ?_ | refine g_exit ?_ | refine g_skip ?_)
    exact ret1 (K := []) rfl (resT (v := .bool false) rfl) ⟨by rw [lightK, decide_eq_false (by omega), Bool.false_and], rfl⟩
  first | refine g_seq (g_cond_f rfl (by simp; omega) ?_) | refine g_cond_f rfl (by simp; omega) ?_
  repeat (first | refine g_endt ?_ | refine g_end ?_ | refine g_then ?_ | refine g_in_normal ?_ | refine g_then_ret ?_ | refine g_in_ret ?_ | refine g_then_exit ?_ | refine g_in_exit rfl ?_ | refine g_in_exit_ne (by decide) ?_ | refine g_seq ?_ | refine g_region ?_ | refine g_block ?_ | refine g_ret ?_ | refine g_return_n ?_ | refine g_exit ?_ | refine g_skip ?_)
  refine o_assign ?_
  first | refine g_endt ?_ | refine g_end ?_
  repeat (first | refine g_endt ?_ | refine g_end ?_ | refine g_then ?_ | refine g_in_normal ?_ | refine g_then_ret ?_ | refine g_in_ret ?_ | refine g_then_exit ?_ | refine g_in_exit rfl ?_ | refine g_in_exit_ne (by decide) ?_ | refine g_seq ?_ | refine g_region ?_ | refine g_block ?_ | refine g_ret ?_ | refine g_return_n ?_ | refine g_exit ?_ | refine g_skip ?_)
  refine g_loop (σ := {i : Nat // i ≤ n ∧ ∀ (j : Nat) (y : LkD), j < i → l[j]? = some y → shortE y.e = true}) (S := fun i => [(0, .slice A n c), (5, .int .i64 (i.1 : Int))]) (H := fun _ => [psl encK 13 A l]) (μ := fun i => n - i.1)
    (s0 := ⟨0, Nat.zero_le _, fun j y hj => absurd hj (Nat.not_lt_zero j)⟩) (Sat.mem ⟨rfl, rfl, trivial⟩) ?_
  rintro ⟨i, hi, hb⟩ ρ2
  dsimp only at hi hb ⊢
  repeat (first | refine g_endt ?_ | refine g_end ?_ | refine g_then ?_ | refine g_in_normal ?_ | refine g_then_ret ?_ | refine g_in_ret ?_ | refine g_then_exit ?_ | refine g_in_exit rfl ?_ | refine g_in_exit_ne (by decide) ?_ | refine g_seq ?_ | refine g_region ?_ | refine g_block ?_ | refine g_ret ?_ | refine g_return_n ?_ | refine g_exit ?_ | refine g_skip ?_)
  refine o_move ?_
  refine o_move ?_
  refine o_len rfl rfl ?_
  refine o_lss rfl rfl ?_
  first | refine g_endt ?_ | refine g_end ?_
  by_cases h : i < n
  · first | refine g_seq (g_cond_t rfl (by first | rfl | (simp; done) | (simp; omega) | (simp; assumption)) ?_) | refine g_cond_t rfl (by first | rfl | (simp; done) | (simp; omega) | (simp; assumption)) ?_
    obtain ⟨y, hy⟩ : ∃ y, l[i]? = some y := ⟨_, List.getElem?_eq_getElem (by omega)⟩
    have hil : i < l.length := by omega
    have hpos : 0 < l.length := by omega
    have hly : lightE [y.e] 1 = shortE y.e := by simp [lightE]
    repeat (first | refine g_endt ?_ | refine g_end ?_ | refine g_then ?_ | refine g_in_normal ?_ | refine g_then_ret ?_ | refine g_in_ret ?_ | refine g_then_exit ?_ | refine g_in_exit rfl ?_ | refine g_in_exit_ne (by decide) ?_ | refine g_seq ?_ | refine g_region ?_ | refine g_block ?_ | refine g_ret ?_ | refine g_return_n ?_ | refine g_exit ?_ | refine g_skip ?_)
    refine o_move ?_
    refine o_move ?_
    refine o_indexR (ys := l) (i := i) rfl rfl rfl hil hl rfl ?_
    refine o_fieldR (ys := l) rfl hpos ?_
    refine o_loadEN (off := 1) (ys := l) (v := y.e.val) rfl hy rfl rfl ?_
    refine o_litP (e := 33) encE [y.e] y.e.val.cells (fun w => by kernel_rfl) (by simp [encE]) (by simp [maxLen]) fun bl => ?_
    refine o_callp (Light_spec (some ⟨bl, 0, none⟩) 1 1 1 [y.e] rfl (by omega) (by omega)) rfl rfl ?_
    rintro _ _ ⟨rfl, rfl⟩
    refine o_not rfl ?_
    first | refine g_endt ?_ | refine g_end ?_
    rw [hly]
    cases hc : shortE y.e with
    | false =>
      first | refine g_seq (g_cond_t rfl (by first | rfl | (simp; done) | (simp; omega) | (simp; assumption)) ?_) | refine g_cond_t rfl (by first | rfl | (simp; done) | (simp; omega) | (simp; assumption)) ?_
      repeat (first | refine g_endt ?_ | refine g_end ?_ | refine g_then ?_ | refine g_in_normal ?_ | refine g_then_ret ?_ | refine g_in_ret ?_ | refine g_then_exit ?_ | refine g_in_exit rfl ?_ | refine g_in_exit_ne (by decide) ?_ | refine g_seq ?_ | refine g_region ?_ | refine g_block ?_ | refine g_ret ?_ | refine g_return_n ?_ | refine g_exit ?_ | refine g_skip ?_)
      refine o_assign ?_
      first | refine g_endt ?_ | refine g_end ?_
      repeat (first | refine g_endt ?_ | refine g_end ?_ | refine g_then ?_ | refine g_in_normal ?_ | refine g_then_ret ?_ | refine g_in_ret ?_ | refine g_then_exit ?_ | refine g_in_exit rfl ?_ | refine g_in_exit_ne (by decide) ?_ | refine g_seq ?_ | refine g_region ?_ | refine g_block ?_ | refine g_ret ?_ | refine g_return_n ?_ | refine g_exit ?_ | refine g_skip ?_)
      exact ret1 (K := []) rfl (resT (v := .bool false) rfl) ⟨by
        rw [lightK, show (l.all fun a => shortE a.e) = false from List.all_eq_false.2 ⟨y, List.mem_of_getElem? hy, by rw [hc]; simp⟩, Bool.and_false], rfl⟩
    | true =>
      first | refine g_seq (g_cond_f rfl (by first | rfl | (simp; done) | (simp; omega) | (simp; assumption)) ?_) | refine g_cond_f rfl (by first | rfl | (simp; done) | (simp; omega) | (simp; assumption)) ?_
      repeat (first | refine g_endt ?_ | refine g_end ?_ | refine g_then ?_ | refine g_in_normal ?_ | refine g_then_ret ?_ | refine g_in_ret ?_ | refine g_then_exit ?_ | refine g_in_exit rfl ?_ | refine g_in_exit_ne (by decide) ?_ | refine g_seq ?_ | refine g_region ?_ | refine g_block ?_ | refine g_ret ?_ | refine g_return_n ?_ | refine g_exit ?_ | refine g_skip ?_)
      refine o_move ?_
      refine o_add (c := ((i + 1 : Nat) : Int)) rfl rfl (by omega) (by omega) (by omega) ?_
      refine o_assign ?_
      first | refine g_endt ?_ | refine g_end ?_
      repeat (first | refine g_endt ?_ | refine g_end ?_ | refine g_then ?_ | refine g_in_normal ?_ | refine g_then_ret ?_ | refine g_in_ret ?_ | refine g_then_exit ?_ | refine g_in_exit rfl ?_ | refine g_in_exit_ne (by decide) ?_ | refine g_seq ?_ | refine g_region ?_ | refine g_block ?_ | refine g_ret ?_ | refine g_return_n ?_ | refine g_exit ?_ | refine g_skip ?_)
      have hn : ∀ (j : Nat) (z : LkD), j < i + 1 → l[j]? = some z → shortE z.e = true := fun j z hj hz => by
        by_cases e : j = i
        · subst e; rw [hy] at hz; cases hz; exact hc
        · exact hb j z (by omega) hz
      exact g_meets (⟨i + 1, h, hn⟩) (by first | exact trivial | (dsimp only; omega)) (Sat.mem (by repeat (first | exact trivial | refine And.intro rfl ?_)))
  · first | refine g_seq (g_cond_f rfl (by simp; omega) ?_) | refine g_cond_f rfl (by simp; omega) ?_
    repeat (first | refine g_endt ?_ | refine g_end ?_ | refine g_then ?_ | refine g_in_normal ?_ | refine g_then_ret ?_ | refine g_in_ret ?_ | refine g_then_exit ?_ | refine g_in_exit rfl ?_ | refine g_in_exit_ne (by decide) ?_ | refine g_seq ?_ | refine g_region ?_ | refine g_block ?_ | refine g_ret ?_ | refine g_return_n ?_ | refine g_exit ?_ | refine g_skip ?_)
    refine o_assign ?_
    first | refine g_endt ?_ | refine g_end ?_
    repeat (first | refine g_endt ?_ | refine g_end ?_ | refine g_then ?_ | refine g_in_normal ?_ | refine g_then_ret ?_ | refine g_in_ret ?_ | refine g_then_exit ?_ | refine g_in_exit rfl ?_ | refine g_in_exit_ne (by decide) ?_ | refine g_seq ?_ | refine g_region ?_ | refine g_block ?_ | refine g_ret ?_ | refine g_return_n ?_ | refine g_exit ?_ | refine g_skip ?_)
    exact ret1 (K := []) rfl (resT (v := .bool true) rfl) ⟨by
      rw [lightK, decide_eq_true (by omega), Bool.true_and, List.all_eq_true.2 fun y hy => ?_]
      obtain ⟨j, hj⟩ := List.mem_iff_getElem?.1 hy
      exact hb j y (by have := (List.getElem?_eq_some_iff.1 hj).1; omega) hj, rfl⟩
set_option maxHeartbeats 4000000 in
theorem play26_spec (ia r : Nat) (ys : List ElemD) (hs : Srt ElemD.cmp ys) (hy : ys.length ≤ 1000) (A : Option Addr) (n c : Nat) (l : List LkD) (hl : l.length = n) (hn : n ≤ 1000) (hsm : ∀ a ∈ l, shortE a.e = true) :
    Ctr Try.prog 25 [.pointer (some ⟨ia, 0, none⟩), .pointer (some ⟨r, 0, none⟩), .slice A n c] [psl encK 13 A l, InA ia ys, KerA r ys] (fun v M => v = .bool true ∧ M = [psl encK 13 A l, InA ia (playK ys l), KerA r (playK ys l)]) := by
  refine spec_of Try.func25 rfl Try.ntmps25 rfl fun w0 F => ?_
  -- ponder/ponderlaw26.play
  repeat (first | refine g_endt ?_ | refine g_end ?_ | refine g_then ?_ | refine g_in_normal ?_ | refine g_then_ret ?_ | refine g_in_ret ?_ | refine g_then_exit ?_ | refine g_in_exit rfl ?_ | refine g_in_exit_ne (by decide) ?_ | refine g_seq ?_ | refine g_region ?_ | refine g_block ?_ | refine g_ret ?_ | refine g_return_n ?_ | refine g_exit ?_ | refine g_skip ?_)
  refine o_assign ?_
  first | refine g_endt ?_ | refine g_end ?_
  repeat (first | refine g_endt ?_ | refine g_end ?_ | refine g_then ?_ | refine g_in_normal ?_ | refine g_then_ret ?_ | refine g_in_ret ?_ | refine g_then_exit ?_ | refine g_in_exit rfl ?_ | refine g_in_exit_ne (by decide) ?_ | refine g_seq ?_ | refine g_region ?_ | refine g_block ?_ | refine g_ret ?_ | refine g_return_n ?_ | refine g_exit ?_ | refine g_skip ?_)
  refine o_assign ?_
  first | refine g_endt ?_ | refine g_end ?_
  repeat (first | refine g_endt ?_ | refine g_end ?_ | refine g_then ?_ | refine g_in_normal ?_ | refine g_then_ret ?_ | refine g_in_ret ?_ | refine g_then_exit ?_ | refine g_in_exit rfl ?_ | refine g_in_exit_ne (by decide) ?_ | refine g_seq ?_ | refine g_region ?_ | refine g_block ?_ | refine g_ret ?_ | refine g_return_n ?_ | refine g_exit ?_ | refine g_skip ?_)
  refine g_loop (σ := {i : Nat // i ≤ n}) (S := fun i => [(0, .pointer (some ⟨ia, 0, none⟩)), (1, .pointer (some ⟨r, 0, none⟩)), (2, .slice A n c), (7, .int .i64 (i.1 : Int))]) (H := fun i => [InA ia (playK ys (l.take i.1)), KerA r (playK ys (l.take i.1)), psl encK 13 A l]) (μ := fun i => n - i.1)
    (s0 := ⟨0, Nat.zero_le _⟩) (Sat.mem ⟨rfl, rfl, rfl, rfl, trivial⟩) (t := (inferInstance : Take _ [InA ia ys, KerA r ys, psl encK 13 A l] _)) ?_
  rintro ⟨i, hi⟩ ρ'
  dsimp only at hi ⊢
  obtain ⟨p1, p2⟩ := playK_facts (l.take i) ys hs
  have hti : (l.take i).length ≤ i := by simp; omega
  repeat (first | refine g_endt ?_ | refine g_end ?_ | refine g_then ?_ | refine g_in_normal ?_ | refine g_then_ret ?_ | refine g_in_ret ?_ | refine g_then_exit ?_ | refine g_in_exit rfl ?_ | refine g_in_exit_ne (by decide) ?_ | refine g_seq ?_ | refine g_region ?_ | refine g_block ?_ | refine g_ret ?_ | refine g_return_n ?_ | refine g_exit ?_ | refine g_skip ?_)
  refine o_move ?_
  refine o_move ?_
  refine o_len rfl rfl ?_
  refine o_lss rfl rfl ?_
  first | refine g_endt ?_ | refine g_end ?_
  by_cases h : i < n
  · first | refine g_seq (g_cond_t rfl (by first | rfl | (simp; done) | (simp; omega) | (simp; assumption)) ?_) | refine g_cond_t rfl (by first | rfl | (simp; done) | (simp; omega) | (simp; assumption)) ?_
    have hil : i < l.length := by omega
    have hpos : 0 < l.length := by omega
    obtain ⟨a, ha⟩ : ∃ a, l[i]? = some a := ⟨_, List.getElem?_eq_getElem hil⟩
    have hsa := shortE_small (hsm a (List.mem_of_getElem? ha))
    have hst := playK_take (ys := ys) ha
    generalize playK ys (l.take i) = zs at p1 p2 hst ⊢
    repeat (first | refine g_endt ?_ | refine g_end ?_ | refine g_then ?_ | refine g_in_normal ?_ | refine g_then_ret ?_ | refine g_in_ret ?_ | refine g_then_exit ?_ | refine g_in_exit rfl ?_ | refine g_in_exit_ne (by decide) ?_ | refine g_seq ?_ | refine g_region ?_ | refine g_block ?_ | refine g_ret ?_ | refine g_return_n ?_ | refine g_exit ?_ | refine g_skip ?_)
    refine o_assign ?_
    first | refine g_endt ?_ | refine g_end ?_
    refine g_seq ?_
    refine g_cutk (σ := Unit) (ds' := []) (S := fun _ => [(0, .pointer (some ⟨ia, 0, none⟩)), (1, .pointer (some ⟨r, 0, none⟩)), (2, .slice A n c), (7, .int .i64 (i : Int)), (8, .bool true)]) (H := fun _ => [InA ia (playK ys (l.take (i + 1))), KerA r (playK ys (l.take (i + 1))), psl encK 13 A l]) (ok := fun _ => True) ?_ ?_
    · skip
      repeat (first | refine g_endt ?_ | refine g_end ?_ | refine g_then ?_ | refine g_in_normal ?_ | refine g_then_ret ?_ | refine g_in_ret ?_ | refine g_then_exit ?_ | refine g_in_exit rfl ?_ | refine g_in_exit_ne (by decide) ?_ | refine g_seq ?_ | refine g_region ?_ | refine g_block ?_ | refine g_ret ?_ | refine g_return_n ?_ | refine g_exit ?_ | refine g_skip ?_)
      refine o_move ?_
      refine o_move ?_
      refine o_indexR (ys := l) (i := i) rfl rfl rfl hil hl rfl ?_
      refine o_fieldR (ys := l) rfl hpos ?_
      refine o_loadE1 (off := 0) (ys := l) (v := .int .i64 a.d) rfl ha rfl ?_
      refine o_call (Within_spec a.d 4 (by omega) (by omega)) rfl rfl ?_
      rintro _ _ ⟨rfl, rfl⟩
      refine o_eql rfl rfl ?_
      first | refine g_endt ?_ | refine g_end ?_
      by_cases h3 : (a.d % 4).toNat = 3
      · have e3 : stepK zs a = delC ElemD.cmp zs a.e := if_pos h3
        first | refine g_seq (g_cond_t rfl (by have h3' : (a.d % ((4 : Nat) : Int)).toNat = 3 := h3; rw [h3']; rfl) ?_) | refine g_cond_t rfl (by have h3' : (a.d % ((4 : Nat) : Int)).toNat = 3 := h3; rw [h3']; rfl) ?_
        rw [hst, e3]
        repeat (first | refine g_endt ?_ | refine g_end ?_ | refine g_then ?_ | refine g_in_normal ?_ | refine g_then_ret ?_ | refine g_in_ret ?_ | refine g_then_exit ?_ | refine g_in_exit rfl ?_ | refine g_in_exit_ne (by decide) ?_ | refine g_seq ?_ | refine g_region ?_ | refine g_block ?_ | refine g_ret ?_ | refine g_return_n ?_ | refine g_exit ?_ | refine g_skip ?_)
        refine g_draw [6,13] [0,1,2,3,4,5,7,8,9,10,11,12,6,13,14,15] [psl encK 13 A l] mixed rfl ?_
        refine ob_q rfl rfl ⟨_, fun X Q h => o_move (g_end (h _ _ ⟨rfl, rfl⟩)), ?_⟩
        refine ob_q rfl rfl ⟨_, fun X Q h => o_move (g_end (h _ _ ⟨rfl, rfl⟩)), ?_⟩
        refine ob_q rfl rfl ⟨_, fun X Q h => o_move (g_end (h _ _ ⟨rfl, rfl⟩)), ?_⟩
        refine ob_q rfl rfl ⟨_, fun X Q h => o_indexR (ys := l) (i := i) rfl rfl rfl hil hl rfl (g_end (h _ _ ⟨rfl, rfl⟩)), ?_⟩
        refine ob_q rfl rfl ⟨_, fun X Q h => o_fieldR (ys := l) rfl hpos (g_end (h _ _ ⟨rfl, rfl⟩)), ?_⟩
        refine ob_q rfl rfl ⟨_, fun X Q h => o_loadEN (off := 1) (ys := l) (v := a.e.val) rfl ha rfl rfl (g_end (h _ _ ⟨rfl, rfl⟩)), ?_⟩
        refine ob_q rfl rfl ⟨_, fun X Q h => o_move (g_end (h _ _ ⟨rfl, rfl⟩)), ?_⟩
        refine ob_q rfl rfl ⟨_, fun X Q h => o_move (g_end (h _ _ ⟨rfl, rfl⟩)), ?_⟩
        refine ob_q rfl rfl ⟨_, fun X Q h => o_move (g_end (h _ _ ⟨rfl, rfl⟩)), ?_⟩
        refine ob_q rfl rfl ⟨_, fun X Q h => o_indexR (ys := l) (i := i) rfl rfl rfl hil hl rfl (g_end (h _ _ ⟨rfl, rfl⟩)), ?_⟩
        refine ob_q rfl rfl ⟨_, fun X Q h => o_fieldR (ys := l) rfl hpos (g_end (h _ _ ⟨rfl, rfl⟩)), ?_⟩
        refine ob_q rfl rfl ⟨_, fun X Q h => o_loadEN (off := 1) (ys := l) (v := a.e.val) rfl ha rfl rfl (g_end (h _ _ ⟨rfl, rfl⟩)), ?_⟩
        refine ob_l rfl rfl fun Qz hz => o_call (linkDrop_spec ia zs a.e p1 (by omega)) rfl rfl ?_
        rintro _ _ ⟨rfl, rfl⟩
        refine g_end (hz _ _ ⟨_, ob_fin, ?_⟩)
        clear hz Qz
        refine ob_l rfl rfl fun Qz hz => o_call (kDrop_spec r zs a.e (by omega)) rfl rfl ?_
        rintro _ _ ⟨rfl, rfl⟩
        refine g_end (hz _ _ ⟨_, ob_fin, ?_⟩)
        clear hz Qz
        refine ob_q rfl rfl ⟨_, fun X Q h => o_eql rfl rfl (g_end (h _ _ ⟨rfl, rfl⟩)), ?_⟩
        rw [show ((if hasC ElemD.cmp zs a.e = true then (0 : Int) else 4) == (if hasC ElemD.cmp zs a.e = true then (0 : Int) else 4)) = true from by simp]
        refine ob_q rfl rfl ⟨_, fun X Q h => o_assign (g_end (h _ _ ⟨rfl, rfl⟩)), ?_⟩
        refine ob_nil ?_
        repeat (first | refine g_endt ?_ | refine g_end ?_ | refine g_then ?_ | refine g_in_normal ?_ | refine g_then_ret ?_ | refine g_in_ret ?_ | refine g_then_exit ?_ | refine g_in_exit rfl ?_ | refine g_in_exit_ne (by decide) ?_ | refine g_seq ?_ | refine g_region ?_ | refine g_block ?_ | refine g_ret ?_ | refine g_return_n ?_ | refine g_exit ?_ | refine g_skip ?_)
        exact g_meets () trivial (Sat.mem ⟨rfl, rfl, rfl, rfl, rfl, trivial⟩)
      · have e3 : stepK zs a = addL zs a.e := if_neg h3
        first | refine g_seq (g_cond_f rfl (by have h3' : ¬ (a.d % ((4 : Nat) : Int)).toNat = 3 := h3; simp; omega) ?_) | refine g_cond_f rfl (by have h3' : ¬ (a.d % ((4 : Nat) : Int)).toNat = 3 := h3; simp; omega) ?_
        rw [hst, e3]
        repeat (first | refine g_endt ?_ | refine g_end ?_ | refine g_then ?_ | refine g_in_normal ?_ | refine g_then_ret ?_ | refine g_in_ret ?_ | refine g_then_exit ?_ | refine g_in_exit rfl ?_ | refine g_in_exit_ne (by decide) ?_ | refine g_seq ?_ | refine g_region ?_ | refine g_block ?_ | refine g_ret ?_ | refine g_return_n ?_ | refine g_exit ?_ | refine g_skip ?_)
        refine g_draw [6,13] [0,1,2,3,4,5,7,8,9,10,11,12,6,13,14,15] [psl encK 13 A l] mixed rfl ?_
        refine ob_q rfl rfl ⟨_, fun X Q h => o_move (g_end (h _ _ ⟨rfl, rfl⟩)), ?_⟩
        refine ob_q rfl rfl ⟨_, fun X Q h => o_move (g_end (h _ _ ⟨rfl, rfl⟩)), ?_⟩
        refine ob_q rfl rfl ⟨_, fun X Q h => o_move (g_end (h _ _ ⟨rfl, rfl⟩)), ?_⟩
        refine ob_q rfl rfl ⟨_, fun X Q h => o_indexR (ys := l) (i := i) rfl rfl rfl hil hl rfl (g_end (h _ _ ⟨rfl, rfl⟩)), ?_⟩
        refine ob_q rfl rfl ⟨_, fun X Q h => o_fieldR (ys := l) rfl hpos (g_end (h _ _ ⟨rfl, rfl⟩)), ?_⟩
        refine ob_q rfl rfl ⟨_, fun X Q h => o_loadEN (off := 1) (ys := l) (v := a.e.val) rfl ha rfl rfl (g_end (h _ _ ⟨rfl, rfl⟩)), ?_⟩
        refine ob_q rfl rfl ⟨_, fun X Q h => o_move (g_end (h _ _ ⟨rfl, rfl⟩)), ?_⟩
        refine ob_q rfl rfl ⟨_, fun X Q h => o_move (g_end (h _ _ ⟨rfl, rfl⟩)), ?_⟩
        refine ob_q rfl rfl ⟨_, fun X Q h => o_move (g_end (h _ _ ⟨rfl, rfl⟩)), ?_⟩
        refine ob_q rfl rfl ⟨_, fun X Q h => o_indexR (ys := l) (i := i) rfl rfl rfl hil hl rfl (g_end (h _ _ ⟨rfl, rfl⟩)), ?_⟩
        refine ob_q rfl rfl ⟨_, fun X Q h => o_fieldR (ys := l) rfl hpos (g_end (h _ _ ⟨rfl, rfl⟩)), ?_⟩
        refine ob_q rfl rfl ⟨_, fun X Q h => o_loadEN (off := 1) (ys := l) (v := a.e.val) rfl ha rfl rfl (g_end (h _ _ ⟨rfl, rfl⟩)), ?_⟩
        refine ob_l rfl rfl fun Qz hz => o_call (linkAdd_spec ia zs a.e p1 (by omega) hsa) rfl rfl ?_
        rintro _ _ ⟨rfl, rfl⟩
        refine g_end (hz _ _ ⟨_, ob_fin, ?_⟩)
        clear hz Qz
        refine ob_l rfl rfl fun Qz hz => o_call (kAdd_spec r zs a.e p1 (by omega) hsa) rfl rfl ?_
        rintro _ _ ⟨rfl, rfl⟩
        refine g_end (hz _ _ ⟨_, ob_fin, ?_⟩)
        clear hz Qz
        refine ob_q rfl rfl ⟨_, fun X Q h => o_eql rfl rfl (g_end (h _ _ ⟨rfl, rfl⟩)), ?_⟩
        rw [show (addN zs a.e == addN zs a.e) = true from by simp]
        refine ob_q rfl rfl ⟨_, fun X Q h => o_assign (g_end (h _ _ ⟨rfl, rfl⟩)), ?_⟩
        refine ob_nil ?_
        repeat (first | refine g_endt ?_ | refine g_end ?_ | refine g_then ?_ | refine g_in_normal ?_ | refine g_then_ret ?_ | refine g_in_ret ?_ | refine g_then_exit ?_ | refine g_in_exit rfl ?_ | refine g_in_exit_ne (by decide) ?_ | refine g_seq ?_ | refine g_region ?_ | refine g_block ?_ | refine g_ret ?_ | refine g_return_n ?_ | refine g_exit ?_ | refine g_skip ?_)
        exact g_meets () trivial (Sat.mem ⟨rfl, rfl, rfl, rfl, rfl, trivial⟩)
    intro _ ρ3 _
    obtain ⟨zs2, hz2⟩ : ∃ zs2, zs2 = playK ys (l.take (i + 1)) := ⟨_, rfl⟩
    rw [← hz2]
    refine openK r zs2 fun S e he => ?_
    repeat (first | refine g_endt ?_ | refine g_end ?_ | refine g_then ?_ | refine g_in_normal ?_ | refine g_then_ret ?_ | refine g_in_ret ?_ | refine g_then_exit ?_ | refine g_in_exit rfl ?_ | refine g_in_exit_ne (by decide) ?_ | refine g_seq ?_ | refine g_region ?_ | refine g_block ?_ | refine g_ret ?_ | refine g_return_n ?_ | refine g_exit ?_ | refine g_skip ?_)
    refine g_draw [4] [0,1,2,3,5,6,7,8,9,4,10,11] [cellsB r (kerC S zs2.length e) 54, psl encE 12 S zs2, psl encK 13 A l] mixed rfl ?_
    refine ob_q rfl rfl ⟨_, fun X Q h => o_move (g_end (h _ _ ⟨rfl, rfl⟩)), ?_⟩
    refine ob_q rfl rfl ⟨_, fun X Q h => o_not rfl (g_end (h _ _ ⟨rfl, rfl⟩)), ?_⟩
    refine ob_q rfl rfl ⟨_, fun X Q h => o_move (g_end (h _ _ ⟨rfl, rfl⟩)), ?_⟩
    first | refine ob_q rfl rfl ⟨_, fun X Q h => o_want rfl rfl rfl rfl rfl <| o_move (g_end (h _ _ ⟨rfl, rfl⟩)), ?_⟩ | refine ob_q rfl rfl ⟨_, fun X Q h => o_unwanted rfl rfl rfl rfl rfl (g_end (h _ _ ⟨rfl, rfl⟩)), ?_⟩ | refine ob_q rfl rfl ⟨_, fun X Q h => o_undef rfl rfl rfl (g_end (h _ _ ⟨rfl, rfl⟩)), ?_⟩
    first | refine ob_q rfl rfl ⟨_, fun X Q h => o_want rfl rfl rfl rfl rfl <| o_move (g_end (h _ _ ⟨rfl, rfl⟩)), ?_⟩ | refine ob_q rfl rfl ⟨_, fun X Q h => o_unwanted rfl rfl rfl rfl rfl (g_end (h _ _ ⟨rfl, rfl⟩)), ?_⟩ | refine ob_q rfl rfl ⟨_, fun X Q h => o_undef rfl rfl rfl (g_end (h _ _ ⟨rfl, rfl⟩)), ?_⟩
    first | refine ob_q rfl rfl ⟨_, fun X Q h => o_want rfl rfl rfl rfl rfl <| o_nil rfl (g_end (h _ _ ⟨rfl, rfl⟩)), ?_⟩ | refine ob_q rfl rfl ⟨_, fun X Q h => o_unwanted rfl rfl rfl rfl rfl (g_end (h _ _ ⟨rfl, rfl⟩)), ?_⟩ | refine ob_q rfl rfl ⟨_, fun X Q h => o_undef rfl rfl rfl (g_end (h _ _ ⟨rfl, rfl⟩)), ?_⟩
    first | refine ob_q rfl rfl ⟨_, fun X Q h => o_want rfl rfl rfl rfl rfl <| o_field rfl (g_end (h _ _ ⟨rfl, rfl⟩)), ?_⟩ | refine ob_q rfl rfl ⟨_, fun X Q h => o_want rfl rfl rfl rfl rfl <| o_fieldR rfl (by omega) (g_end (h _ _ ⟨rfl, rfl⟩)), ?_⟩ | refine ob_q rfl rfl ⟨_, fun X Q h => o_unwanted rfl rfl rfl rfl rfl (g_end (h _ _ ⟨rfl, rfl⟩)), ?_⟩ | refine ob_q rfl rfl ⟨_, fun X Q h => o_undef rfl rfl rfl (g_end (h _ _ ⟨rfl, rfl⟩)), ?_⟩
    refine ob_q rfl rfl ⟨_, fun X Q h => o_want rfl rfl rfl rfl rfl <| o_load1 (v := .slice S zs2.length e) rfl rfl (g_end (h _ _ ⟨rfl, rfl⟩)), ?_⟩
    first | refine ob_q rfl rfl ⟨_, fun X Q h => o_want rfl rfl rfl rfl rfl <| o_len rfl rfl (g_end (h _ _ ⟨rfl, rfl⟩)), ?_⟩ | refine ob_q rfl rfl ⟨_, fun X Q h => o_unwanted rfl rfl rfl rfl rfl (g_end (h _ _ ⟨rfl, rfl⟩)), ?_⟩ | refine ob_q rfl rfl ⟨_, fun X Q h => o_undef rfl rfl rfl (g_end (h _ _ ⟨rfl, rfl⟩)), ?_⟩
    refine ob_l rfl rfl fun Qz hz => o_want rfl rfl rfl rfl rfl <| o_call (linkLen_spec ia zs2) rfl rfl ?_
    rintro _ _ ⟨rfl, rfl⟩
    refine g_end (hz _ _ ⟨_, ob_fin, ?_⟩)
    clear hz Qz
    first | refine ob_q rfl rfl ⟨_, fun X Q h => o_want rfl rfl rfl rfl rfl <| o_neq rfl rfl (g_end (h _ _ ⟨rfl, rfl⟩)), ?_⟩ | refine ob_q rfl rfl ⟨_, fun X Q h => o_unwanted rfl rfl rfl rfl rfl (g_end (h _ _ ⟨rfl, rfl⟩)), ?_⟩ | refine ob_q rfl rfl ⟨_, fun X Q h => o_undef rfl rfl rfl (g_end (h _ _ ⟨rfl, rfl⟩)), ?_⟩
    first | refine ob_q rfl rfl ⟨_, fun X Q h => o_pick_t rfl rfl (g_end (h _ _ ⟨rfl, rfl⟩)), ?_⟩ | refine ob_q rfl rfl ⟨_, fun X Q h => o_pick_f rfl rfl (g_end (h _ _ ⟨rfl, rfl⟩)), ?_⟩
    refine ob_nil ?_
    first | refine g_seq (g_cond_f rfl (by simp) ?_) | refine g_cond_f rfl (by simp) ?_
    refine shutK r zs2 S e rfl he ?_
    rw [hz2]
    repeat (first | refine g_endt ?_ | refine g_end ?_ | refine g_then ?_ | refine g_in_normal ?_ | refine g_then_ret ?_ | refine g_in_ret ?_ | refine g_then_exit ?_ | refine g_in_exit rfl ?_ | refine g_in_exit_ne (by decide) ?_ | refine g_seq ?_ | refine g_region ?_ | refine g_block ?_ | refine g_ret ?_ | refine g_return_n ?_ | refine g_exit ?_ | refine g_skip ?_)
    refine o_move ?_
    refine o_add (c := ((i + 1 : Nat) : Int)) rfl rfl (by omega) (by omega) (by omega) ?_
    refine o_assign ?_
    first | refine g_endt ?_ | refine g_end ?_
    repeat (first | refine g_endt ?_ | refine g_end ?_ | refine g_then ?_ | refine g_in_normal ?_ | refine g_then_ret ?_ | refine g_in_ret ?_ | refine g_then_exit ?_ | refine g_in_exit rfl ?_ | refine g_in_exit_ne (by decide) ?_ | refine g_seq ?_ | refine g_region ?_ | refine g_block ?_ | refine g_ret ?_ | refine g_return_n ?_ | refine g_exit ?_ | refine g_skip ?_)
    exact g_meets (⟨i + 1, h⟩) (by first | exact trivial | (dsimp only; omega)) (Sat.mem (by repeat (first | exact trivial | refine And.intro rfl ?_)))
  · first | refine g_seq (g_cond_f rfl (by simp; omega) ?_) | refine g_cond_f rfl (by simp; omega) ?_
    rw [show l.take i = l from List.take_of_length_le (by omega)] at p2 ⊢
    obtain ⟨zs2, hz2⟩ : ∃ zs2, zs2 = playK ys l := ⟨_, rfl⟩
    rw [← hz2] at p2 ⊢
    refine openK r zs2 fun S e he => ?_
    repeat (first | refine g_endt ?_ | refine g_end ?_ | refine g_then ?_ | refine g_in_normal ?_ | refine g_then_ret ?_ | refine g_in_ret ?_ | refine g_then_exit ?_ | refine g_in_exit rfl ?_ | refine g_in_exit_ne (by decide) ?_ | refine g_seq ?_ | refine g_region ?_ | refine g_block ?_ | refine g_ret ?_ | refine g_return_n ?_ | refine g_exit ?_ | refine g_skip ?_)
    refine g_draw [1,2,7] [0,3,4,5,6,1,2,7,8] [cellsB r (kerC S zs2.length e) 54, psl encE 12 S zs2, psl encK 13 A l] mixed rfl ?_
    refine ob_q rfl rfl ⟨_, fun X Q h => o_move (g_end (h _ _ ⟨rfl, rfl⟩)), ?_⟩
    refine ob_q rfl rfl ⟨_, fun X Q h => o_move (g_end (h _ _ ⟨rfl, rfl⟩)), ?_⟩
    refine ob_q rfl rfl ⟨_, fun X Q h => o_nil rfl (g_end (h _ _ ⟨rfl, rfl⟩)), ?_⟩
    first | refine ob_q rfl rfl ⟨_, fun X Q h => o_field rfl (g_end (h _ _ ⟨rfl, rfl⟩)), ?_⟩ | refine ob_q rfl rfl ⟨_, fun X Q h => o_fieldR rfl (by omega) (g_end (h _ _ ⟨rfl, rfl⟩)), ?_⟩
    refine ob_q rfl rfl ⟨_, fun X Q h => o_load1 (v := .slice S zs2.length e) rfl rfl (g_end (h _ _ ⟨rfl, rfl⟩)), ?_⟩
    refine ob_l rfl rfl fun Qz hz => o_call (linkAll_spec ia zs2) rfl rfl ?_
    rintro _ _ ⟨pa, ba, rfl, rfl⟩
    refine g_end (hz _ _ ⟨_, ob_fin, ?_⟩)
    clear hz Qz
    refine ob_l rfl rfl fun Qz hz => o_call (ListE_spec 57 [.pointer (some ⟨ba, 0, none⟩)] zs2 rfl (by omega) [SetAES pa zs2, pblk ba (.cells #[.pointer (some ⟨pa, 0, none⟩)] 62 (0, 0))] (fun K => All1ES_iter pa ba zs2 (by omega) _)) rfl rfl ?_
    rintro _ _ ⟨Sa, ca, rfl, rfl⟩
    (refine G.bring [osl 33 encE 12 Sa ca zs2] ?_; refine G.frz ?_)
    refine g_end (hz _ _ ⟨_, ob_fin, ?_⟩)
    clear hz Qz
    refine ob_l rfl rfl fun Qz hz => o_callp (Elems_spec Sa S zs2.length ca e zs2 rfl (by omega)) rfl rfl ?_
    rintro _ _ ⟨rfl, rfl⟩
    refine g_end (hz _ _ ⟨_, ob_fin, ?_⟩)
    clear hz Qz
    refine ob_q rfl rfl ⟨_, fun X Q h => o_assign (g_end (h _ _ ⟨rfl, rfl⟩)), ?_⟩
    refine ob_nil ?_
    refine shutIn ia pa zs2 ?_
    refine shutK r zs2 S e rfl he ?_
    repeat (first | refine g_endt ?_ | refine g_end ?_ | refine g_then ?_ | refine g_in_normal ?_ | refine g_then_ret ?_ | refine g_in_ret ?_ | refine g_then_exit ?_ | refine g_in_exit rfl ?_ | refine g_in_exit_ne (by decide) ?_ | refine g_seq ?_ | refine g_region ?_ | refine g_block ?_ | refine g_ret ?_ | refine g_return_n ?_ | refine g_exit ?_ | refine g_skip ?_)
    exact ret1 (K := [psl encK 13 A l, InA ia zs2, KerA r zs2]) rfl (resT (v := .bool true) rfl) ⟨rfl, rfl⟩
end Go.Proofs.Ytonjhakjnopbjaa
/- Acts of input elements among a law's arguments. -/
namespace Go.Proofs.Ytonjhakjnopbjaa
open Go Go.Sl Go.RowKit Go.ChangeShapes Go.WideShapes Go.Deep

section
variable {H : Type} {enc : TypeId × Value → H} {W : World}
set_option maxRecDepth 100000 in
theorem cells_encK {n : Nat} {cs : List Value} {x : DataW H × List MemPlace} (h : DataW.trod enc Try.prog W 0 (fun _ => true) true n 78 cs = some x) : ∃ a : LkD, cs = encK a := by
  have hl := cells_length (sz := 13) (by kernel_rfl) h (by kernel_rfl)
  obtain ⟨m0, y0, f0⟩ := cells_field (i := 0) (ft := 3) (off := 0) (sz := 1) (by kernel_rfl) h (by kernel_rfl) (by kernel_rfl)
  obtain ⟨m1, y1, f1⟩ := cells_field (i := 1) (ft := 33) (off := 1) (sz := 12) (by kernel_rfl) h (by kernel_rfl) (by kernel_rfl)
  obtain ⟨k0, g0⟩ := cells_int f0
  obtain ⟨k1, g1⟩ := cells_elem f1
  refine ⟨⟨k0, k1⟩, ?_⟩
  match cs, hl with
  | [c0, c1, c2, c3, c4, c5, c6, c7, c8, c9, c10, c11, c12], _ =>
    simp [encK] at g0 g1 ⊢
    exact ⟨g0, g1⟩
end
end Go.Proofs.Ytonjhakjnopbjaa
/- A region that draws its order: a step behind which what may be read is picked anew. Plain library, no program in sight. -/
namespace Go.Sl
open Go Go.Proofs

section
variable {w0 : World} {A : SProp} {ro : Option Nat} {P : Program} {n : Nat} {ds : List Nat} {l : List Oper} {lou : List Nat} {Lq : List SProp} {K : (Nat → Value) → List SProp → Prop} {i : Nat} {π : List Nat} {ρ : Nat → Value} {Lp : List SProp} {o : Oper}
/-- As 'ob_s', where what may be read from here on is told by what the step leaves. -/
theorem ob_s2 (hi : l[i]? = some o) (hl : lou.contains i = true) (hs : okSync (masks l []) l.length i π = true)
    (h : OStep w0 A ro P l.toArray n ds ρ (Lq ++ Lp) o (fun v M => ∃ Lq' Lp', Ent (sl M) (sl (Lq' ++ Lp')) ∧ Ob w0 A ro P l n ds lou Lq' K π (updo ρ o.dst v) Lp')) :
    Ob w0 A ro P l n ds lou Lq K (i :: π) ρ Lp := by
  simp only [Ob, ObR, hi, hl, if_true]
  exact fun Q hn => h Q fun v M ⟨Lq', Lp', h1, h2⟩ => hn v M ⟨Lq', Lp', h1, .inr hs, h2⟩
end
end Go.Sl
/- The law on input elements copied, walked. -/
namespace Go.Proofs.Ytonjhakjnopbjaa
open Go Go.Sl
attribute [local irreducible] Code.wpIn roundPost bodyPostM runL Ret Meets Begin

theorem lightK_facts {l : List LkD} {k : Nat} (h : lightK l k = true) : l.length ≤ k ∧ ∀ a ∈ l, shortE a.e = true := by
  simpa only [lightK, Bool.and_eq_true, decide_eq_true_eq, List.all_eq_true] using h
set_option maxHeartbeats 8000000 in
theorem LinkClones_spec (A B D : Option Addr) (n1 c1 n2 c2 n3 c3 : Nat) (l1 l2 l3 : List LkD) (h1 : l1.length = n1) (h2 : l2.length = n2) (h3 : l3.length = n3) (m1 : n1 ≤ 9223372036854775807) (m2 : n2 ≤ 9223372036854775807) (m3 : n3 ≤ 9223372036854775807) :
    Ctr Try.prog 7 [.slice A n1 c1, .slice B n2 c2, .slice D n3 c3] [psl encK 13 A l1, psl encK 13 B l2, psl encK 13 D l3] (fun v M => v = .bool true ∧ M = []) := by
  refine spec_of Try.func7 rfl Try.ntmps7 rfl fun w0 F => ?_
  -- ponder/ponderlaw26.LinkClones
  repeat (first | refine g_endt ?_ | refine g_end ?_ | refine g_then ?_ | refine g_in_normal ?_ | refine g_then_ret ?_ | refine g_in_ret ?_ | refine g_then_exit ?_ | refine g_in_exit rfl ?_ | refine g_in_exit_ne (by decide) ?_ | refine g_seq ?_ | refine g_region ?_ | refine g_block ?_ | refine g_ret ?_ | refine g_return_n ?_ | refine g_exit ?_ | refine g_skip ?_)
  refine o_assign ?_
  first | refine g_endt ?_ | refine g_end ?_
  repeat (first | refine g_endt ?_ | refine g_end ?_ | refine g_then ?_ | refine g_in_normal ?_ | refine g_then_ret ?_ | refine g_in_ret ?_ | refine g_then_exit ?_ | refine g_in_exit rfl ?_ | refine g_in_exit_ne (by decide) ?_ | refine g_seq ?_ | refine g_region ?_ | refine g_block ?_ | refine g_ret ?_ | refine g_return_n ?_ | refine g_exit ?_ | refine g_skip ?_)
  refine o_call (linkNew_spec) rfl rfl ?_
  rintro _ _ ⟨ia, rfl, rfl⟩
  refine o_assign ?_
  first | refine g_endt ?_ | refine g_end ?_
  repeat (first | refine g_endt ?_ | refine g_end ?_ | refine g_then ?_ | refine g_in_normal ?_ | refine g_then_ret ?_ | refine g_in_ret ?_ | refine g_then_exit ?_ | refine g_in_exit rfl ?_ | refine g_in_exit_ne (by decide) ?_ | refine g_seq ?_ | refine g_region ?_ | refine g_block ?_ | refine g_ret ?_ | refine g_return_n ?_ | refine g_exit ?_ | refine g_skip ?_)
  refine o_move ?_
  refine o_peql rfl ?_
  first | refine g_endt ?_ | refine g_end ?_
  first | refine g_seq (g_cond_f rfl (by first | rfl | (simp; done) | (simp; omega) | (simp; assumption)) ?_) | refine g_cond_f rfl (by first | rfl | (simp; done) | (simp; omega) | (simp; assumption)) ?_
  cases hx1 : lightK l1 60 with
  | false =>
    repeat (first | refine g_endt ?_ | refine g_end ?_ | refine g_then ?_ | refine g_in_normal ?_ | refine g_then_ret ?_ | refine g_in_ret ?_ | refine g_then_exit ?_ | refine g_in_exit rfl ?_ | refine g_in_exit_ne (by decide) ?_ | refine g_seq ?_ | refine g_region ?_ | refine g_block ?_ | refine g_ret ?_ | refine g_return_n ?_ | refine g_exit ?_ | refine g_skip ?_)
    refine o_move ?_
    refine o_callp (lightK_spec A n1 c1 60 l1 h1 m1 (by omega)) rfl rfl ?_
    rintro _ _ ⟨rfl, rfl⟩
    rw [hx1]
    refine o_not rfl ?_
    refine o_move ?_
    first | (refine o_want rfl rfl rfl rfl rfl ?_; refine o_move ?_) | refine o_unwanted rfl rfl rfl rfl rfl ?_ | refine o_undef rfl rfl rfl ?_
    first | refine o_unwanted rfl rfl rfl rfl rfl ?_ | refine o_undef rfl rfl rfl ?_
    first | (refine o_want rfl rfl rfl rfl rfl ?_; refine o_not rfl ?_) | refine o_unwanted rfl rfl rfl rfl rfl ?_ | refine o_undef rfl rfl rfl ?_
    first | refine o_pick_t rfl rfl ?_ | refine o_pick_f rfl rfl ?_
    refine o_move ?_
    first | (refine o_want rfl rfl rfl rfl rfl ?_; refine o_move ?_) | refine o_unwanted rfl rfl rfl rfl rfl ?_ | refine o_undef rfl rfl rfl ?_
    first | refine o_unwanted rfl rfl rfl rfl rfl ?_ | refine o_undef rfl rfl rfl ?_
    first | (refine o_want rfl rfl rfl rfl rfl ?_; refine o_not rfl ?_) | refine o_unwanted rfl rfl rfl rfl rfl ?_ | refine o_undef rfl rfl rfl ?_
    first | refine o_pick_t rfl rfl ?_ | refine o_pick_f rfl rfl ?_
    first | refine g_endt ?_ | refine g_end ?_
    first | refine g_seq (g_cond_t rfl (by first | rfl | (simp; done) | (simp; omega) | (simp; assumption)) ?_) | refine g_cond_t rfl (by first | rfl | (simp; done) | (simp; omega) | (simp; assumption)) ?_
    repeat (first | refine g_endt ?_ | refine g_end ?_ | refine g_then ?_ | refine g_in_normal ?_ | refine g_then_ret ?_ | refine g_in_ret ?_ | refine g_then_exit ?_ | refine g_in_exit rfl ?_ | refine g_in_exit_ne (by decide) ?_ | refine g_seq ?_ | refine g_region ?_ | refine g_block ?_ | refine g_ret ?_ | refine g_return_n ?_ | refine g_exit ?_ | refine g_skip ?_)
    refine o_call (wakes26_spec) rfl rfl ?_
    rintro _ _ ⟨rfl, rfl⟩
    refine o_assign ?_
    first | refine g_endt ?_ | refine g_end ?_
    repeat (first | refine g_endt ?_ | refine g_end ?_ | refine g_then ?_ | refine g_in_normal ?_ | refine g_then_ret ?_ | refine g_in_ret ?_ | refine g_then_exit ?_ | refine g_in_exit rfl ?_ | refine g_in_exit_ne (by decide) ?_ | refine g_seq ?_ | refine g_region ?_ | refine g_block ?_ | refine g_ret ?_ | refine g_return_n ?_ | refine g_exit ?_ | refine g_skip ?_)
    exact ret1 (K := []) rfl (resT (v := .bool true) rfl) ⟨rfl, rfl⟩
  | true =>
  cases hx2 : lightK l2 60 with
  | false =>
    repeat (first | refine g_endt ?_ | refine g_end ?_ | refine g_then ?_ | refine g_in_normal ?_ | refine g_then_ret ?_ | refine g_in_ret ?_ | refine g_then_exit ?_ | refine g_in_exit rfl ?_ | refine g_in_exit_ne (by decide) ?_ | refine g_seq ?_ | refine g_region ?_ | refine g_block ?_ | refine g_ret ?_ | refine g_return_n ?_ | refine g_exit ?_ | refine g_skip ?_)
    refine o_move ?_
    refine o_callp (lightK_spec A n1 c1 60 l1 h1 m1 (by omega)) rfl rfl ?_
    rintro _ _ ⟨rfl, rfl⟩
    rw [hx1]
    refine o_not rfl ?_
    refine o_move ?_
    first | (refine o_want rfl rfl rfl rfl rfl ?_; refine o_move ?_) | refine o_unwanted rfl rfl rfl rfl rfl ?_ | refine o_undef rfl rfl rfl ?_
    refine o_want rfl rfl rfl rfl rfl (o_callp (lightK_spec B n2 c2 60 l2 h2 m2 (by omega)) rfl rfl ?_)
    rintro _ _ ⟨rfl, rfl⟩
    rw [hx2]
    first | (refine o_want rfl rfl rfl rfl rfl ?_; refine o_not rfl ?_) | refine o_unwanted rfl rfl rfl rfl rfl ?_ | refine o_undef rfl rfl rfl ?_
    first | refine o_pick_t rfl rfl ?_ | refine o_pick_f rfl rfl ?_
    refine o_move ?_
    first | (refine o_want rfl rfl rfl rfl rfl ?_; refine o_move ?_) | refine o_unwanted rfl rfl rfl rfl rfl ?_ | refine o_undef rfl rfl rfl ?_
    first | refine o_unwanted rfl rfl rfl rfl rfl ?_ | refine o_undef rfl rfl rfl ?_
    first | (refine o_want rfl rfl rfl rfl rfl ?_; refine o_not rfl ?_) | refine o_unwanted rfl rfl rfl rfl rfl ?_ | refine o_undef rfl rfl rfl ?_
    first | refine o_pick_t rfl rfl ?_ | refine o_pick_f rfl rfl ?_
    first | refine g_endt ?_ | refine g_end ?_
    first | refine g_seq (g_cond_t rfl (by first | rfl | (simp; done) | (simp; omega) | (simp; assumption)) ?_) | refine g_cond_t rfl (by first | rfl | (simp; done) | (simp; omega) | (simp; assumption)) ?_
    repeat (first | refine g_endt ?_ | refine g_end ?_ | refine g_then ?_ | refine g_in_normal ?_ | refine g_then_ret ?_ | refine g_in_ret ?_ | refine g_then_exit ?_ | refine g_in_exit rfl ?_ | refine g_in_exit_ne (by decide) ?_ | refine g_seq ?_ | refine g_region ?_ | refine g_block ?_ | refine g_ret ?_ | refine g_return_n ?_ | refine g_exit ?_ | refine g_skip ?_)
    refine o_call (wakes26_spec) rfl rfl ?_
    rintro _ _ ⟨rfl, rfl⟩
    refine o_assign ?_
    first | refine g_endt ?_ | refine g_end ?_
    repeat (first | refine g_endt ?_ | refine g_end ?_ | refine g_then ?_ | refine g_in_normal ?_ | refine g_then_ret ?_ | refine g_in_ret ?_ | refine g_then_exit ?_ | refine g_in_exit rfl ?_ | refine g_in_exit_ne (by decide) ?_ | refine g_seq ?_ | refine g_region ?_ | refine g_block ?_ | refine g_ret ?_ | refine g_return_n ?_ | refine g_exit ?_ | refine g_skip ?_)
    exact ret1 (K := []) rfl (resT (v := .bool true) rfl) ⟨rfl, rfl⟩
  | true =>
  cases hx3 : lightK l3 60 with
  | false =>
    repeat (first | refine g_endt ?_ | refine g_end ?_ | refine g_then ?_ | refine g_in_normal ?_ | refine g_then_ret ?_ | refine g_in_ret ?_ | refine g_then_exit ?_ | refine g_in_exit rfl ?_ | refine g_in_exit_ne (by decide) ?_ | refine g_seq ?_ | refine g_region ?_ | refine g_block ?_ | refine g_ret ?_ | refine g_return_n ?_ | refine g_exit ?_ | refine g_skip ?_)
    refine o_move ?_
    refine o_callp (lightK_spec A n1 c1 60 l1 h1 m1 (by omega)) rfl rfl ?_
    rintro _ _ ⟨rfl, rfl⟩
    rw [hx1]
    refine o_not rfl ?_
    refine o_move ?_
    first | (refine o_want rfl rfl rfl rfl rfl ?_; refine o_move ?_) | refine o_unwanted rfl rfl rfl rfl rfl ?_ | refine o_undef rfl rfl rfl ?_
    refine o_want rfl rfl rfl rfl rfl (o_callp (lightK_spec B n2 c2 60 l2 h2 m2 (by omega)) rfl rfl ?_)
    rintro _ _ ⟨rfl, rfl⟩
    rw [hx2]
    first | (refine o_want rfl rfl rfl rfl rfl ?_; refine o_not rfl ?_) | refine o_unwanted rfl rfl rfl rfl rfl ?_ | refine o_undef rfl rfl rfl ?_
    first | refine o_pick_t rfl rfl ?_ | refine o_pick_f rfl rfl ?_
    refine o_move ?_
    first | (refine o_want rfl rfl rfl rfl rfl ?_; refine o_move ?_) | refine o_unwanted rfl rfl rfl rfl rfl ?_ | refine o_undef rfl rfl rfl ?_
    refine o_want rfl rfl rfl rfl rfl (o_callp (lightK_spec D n3 c3 60 l3 h3 m3 (by omega)) rfl rfl ?_)
    rintro _ _ ⟨rfl, rfl⟩
    rw [hx3]
    first | (refine o_want rfl rfl rfl rfl rfl ?_; refine o_not rfl ?_) | refine o_unwanted rfl rfl rfl rfl rfl ?_ | refine o_undef rfl rfl rfl ?_
    first | refine o_pick_t rfl rfl ?_ | refine o_pick_f rfl rfl ?_
    first | refine g_endt ?_ | refine g_end ?_
    first | refine g_seq (g_cond_t rfl (by first | rfl | (simp; done) | (simp; omega) | (simp; assumption)) ?_) | refine g_cond_t rfl (by first | rfl | (simp; done) | (simp; omega) | (simp; assumption)) ?_
    repeat (first | refine g_endt ?_ | refine g_end ?_ | refine g_then ?_ | refine g_in_normal ?_ | refine g_then_ret ?_ | refine g_in_ret ?_ | refine g_then_exit ?_ | refine g_in_exit rfl ?_ | refine g_in_exit_ne (by decide) ?_ | refine g_seq ?_ | refine g_region ?_ | refine g_block ?_ | refine g_ret ?_ | refine g_return_n ?_ | refine g_exit ?_ | refine g_skip ?_)
    refine o_call (wakes26_spec) rfl rfl ?_
    rintro _ _ ⟨rfl, rfl⟩
    refine o_assign ?_
    first | refine g_endt ?_ | refine g_end ?_
    repeat (first | refine g_endt ?_ | refine g_end ?_ | refine g_then ?_ | refine g_in_normal ?_ | refine g_then_ret ?_ | refine g_in_ret ?_ | refine g_then_exit ?_ | refine g_in_exit rfl ?_ | refine g_in_exit_ne (by decide) ?_ | refine g_seq ?_ | refine g_region ?_ | refine g_block ?_ | refine g_ret ?_ | refine g_return_n ?_ | refine g_exit ?_ | refine g_skip ?_)
    exact ret1 (K := []) rfl (resT (v := .bool true) rfl) ⟨rfl, rfl⟩
  | true =>
  obtain ⟨k1, s1⟩ := lightK_facts hx1
  obtain ⟨k2, s2⟩ := lightK_facts hx2
  obtain ⟨k3, s3⟩ := lightK_facts hx3
  repeat (first | refine g_endt ?_ | refine g_end ?_ | refine g_then ?_ | refine g_in_normal ?_ | refine g_then_ret ?_ | refine g_in_ret ?_ | refine g_then_exit ?_ | refine g_in_exit rfl ?_ | refine g_in_exit_ne (by decide) ?_ | refine g_seq ?_ | refine g_region ?_ | refine g_block ?_ | refine g_ret ?_ | refine g_return_n ?_ | refine g_exit ?_ | refine g_skip ?_)
  refine o_move ?_
  refine o_callp (lightK_spec A n1 c1 60 l1 h1 m1 (by omega)) rfl rfl ?_
  rintro _ _ ⟨rfl, rfl⟩
  rw [hx1]
  refine o_not rfl ?_
  refine o_move ?_
  first | (refine o_want rfl rfl rfl rfl rfl ?_; refine o_move ?_) | refine o_unwanted rfl rfl rfl rfl rfl ?_ | refine o_undef rfl rfl rfl ?_
  refine o_want rfl rfl rfl rfl rfl (o_callp (lightK_spec B n2 c2 60 l2 h2 m2 (by omega)) rfl rfl ?_)
  rintro _ _ ⟨rfl, rfl⟩
  rw [hx2]
  first | (refine o_want rfl rfl rfl rfl rfl ?_; refine o_not rfl ?_) | refine o_unwanted rfl rfl rfl rfl rfl ?_ | refine o_undef rfl rfl rfl ?_
  first | refine o_pick_t rfl rfl ?_ | refine o_pick_f rfl rfl ?_
  refine o_move ?_
  first | (refine o_want rfl rfl rfl rfl rfl ?_; refine o_move ?_) | refine o_unwanted rfl rfl rfl rfl rfl ?_ | refine o_undef rfl rfl rfl ?_
  refine o_want rfl rfl rfl rfl rfl (o_callp (lightK_spec D n3 c3 60 l3 h3 m3 (by omega)) rfl rfl ?_)
  rintro _ _ ⟨rfl, rfl⟩
  rw [hx3]
  first | (refine o_want rfl rfl rfl rfl rfl ?_; refine o_not rfl ?_) | refine o_unwanted rfl rfl rfl rfl rfl ?_ | refine o_undef rfl rfl rfl ?_
  first | refine o_pick_t rfl rfl ?_ | refine o_pick_f rfl rfl ?_
  first | refine g_endt ?_ | refine g_end ?_
  first | refine g_seq (g_cond_f rfl (by first | rfl | (simp; done) | (simp; omega) | (simp; assumption)) ?_) | refine g_cond_f rfl (by first | rfl | (simp; done) | (simp; omega) | (simp; assumption)) ?_
  repeat (first | refine g_endt ?_ | refine g_end ?_ | refine g_then ?_ | refine g_in_normal ?_ | refine g_then_ret ?_ | refine g_in_ret ?_ | refine g_then_exit ?_ | refine g_in_exit rfl ?_ | refine g_in_exit_ne (by decide) ?_ | refine g_seq ?_ | refine g_region ?_ | refine g_block ?_ | refine g_ret ?_ | refine g_return_n ?_ | refine g_exit ?_ | refine g_skip ?_)
  refine o_build (.agg (kerC none 0 0)) (fun w => by kernel_rfl) ?_
  refine o_boxc (kerC none 0 0) rfl rfl fun r => ?_
  refine o_assign ?_
  first | refine g_endt ?_ | refine g_end ?_
  refine G.nil_slice 33 encE 12 (G.freeze_slice (shutK r [] none 0 rfl (Nat.le_refl _) ?_))
  repeat (first | refine g_endt ?_ | refine g_end ?_ | refine g_then ?_ | refine g_in_normal ?_ | refine g_then_ret ?_ | refine g_in_ret ?_ | refine g_then_exit ?_ | refine g_in_exit rfl ?_ | refine g_in_exit_ne (by decide) ?_ | refine g_seq ?_ | refine g_region ?_ | refine g_block ?_ | refine g_ret ?_ | refine g_return_n ?_ | refine g_exit ?_ | refine g_skip ?_)
  refine o_move ?_
  refine o_move ?_
  refine o_move ?_
  refine o_call (play26_spec ia r [] Srt.nil (by simp) A n1 c1 l1 h1 (by omega) s1) rfl rfl ?_
  rintro _ _ ⟨rfl, rfl⟩
  refine o_not rfl ?_
  first | refine g_endt ?_ | refine g_end ?_
  first | refine g_seq (g_cond_f rfl (by first | rfl | (simp; done) | (simp; omega) | (simp; assumption)) ?_) | refine g_cond_f rfl (by first | rfl | (simp; done) | (simp; omega) | (simp; assumption)) ?_
  obtain ⟨p1, p2⟩ := playK_facts l1 [] Srt.nil
  rw [List.length_nil] at p2
  generalize playK [] l1 = ys at p1 p2 ⊢
  repeat (first | refine g_endt ?_ | refine g_end ?_ | refine g_then ?_ | refine g_in_normal ?_ | refine g_then_ret ?_ | refine g_in_ret ?_ | refine g_then_exit ?_ | refine g_in_exit rfl ?_ | refine g_in_exit_ne (by decide) ?_ | refine g_seq ?_ | refine g_region ?_ | refine g_block ?_ | refine g_ret ?_ | refine g_return_n ?_ | refine g_exit ?_ | refine g_skip ?_)
  refine o_move ?_
  refine o_call (linkClone_spec ia ys) rfl rfl ?_
  rintro _ _ ⟨ic, rfl, rfl⟩
  refine o_assign ?_
  first | refine g_endt ?_ | refine g_end ?_
  repeat (first | refine g_endt ?_ | refine g_end ?_ | refine g_then ?_ | refine g_in_normal ?_ | refine g_then_ret ?_ | refine g_in_ret ?_ | refine g_then_exit ?_ | refine g_in_exit rfl ?_ | refine g_in_exit_ne (by decide) ?_ | refine g_seq ?_ | refine g_region ?_ | refine g_block ?_ | refine g_ret ?_ | refine g_return_n ?_ | refine g_exit ?_ | refine g_skip ?_)
  refine o_move ?_
  refine o_peql rfl ?_
  first | refine g_endt ?_ | refine g_end ?_
  first | refine g_seq (g_cond_f rfl (by first | rfl | (simp; done) | (simp; omega) | (simp; assumption)) ?_) | refine g_cond_f rfl (by first | rfl | (simp; done) | (simp; omega) | (simp; assumption)) ?_
  refine openK r ys fun S e he => ?_
  repeat (first | refine g_endt ?_ | refine g_end ?_ | refine g_then ?_ | refine g_in_normal ?_ | refine g_then_ret ?_ | refine g_in_ret ?_ | refine g_then_exit ?_ | refine g_in_exit rfl ?_ | refine g_in_exit_ne (by decide) ?_ | refine g_seq ?_ | refine g_region ?_ | refine g_block ?_ | refine g_ret ?_ | refine g_return_n ?_ | refine g_exit ?_ | refine g_skip ?_)
  refine o_move ?_
  refine o_nil rfl ?_
  refine o_loadN (v := .agg (kerC S ys.length e)) rfl rfl rfl ?_
  refine o_alloc fun q => ?_
  refine o_store (v := .agg (kerC S ys.length e)) rfl rfl rfl rfl rfl ?_
  first | refine g_endt ?_ | refine g_end ?_
  refine G.norm q (kerC S ys.length e) rfl ?_
  refine G.dup (psl encE 12 S ys) ?_
  refine shutK r ys S e rfl he ?_
  refine shutK q ys S e rfl he ?_
  obtain ⟨q1, q2⟩ := playK_facts l2 ys p1
  obtain ⟨u1, u2⟩ := playK_facts l3 ys p1
  repeat (first | refine g_endt ?_ | refine g_end ?_ | refine g_then ?_ | refine g_in_normal ?_ | refine g_then_ret ?_ | refine g_in_ret ?_ | refine g_then_exit ?_ | refine g_in_exit rfl ?_ | refine g_in_exit_ne (by decide) ?_ | refine g_seq ?_ | refine g_region ?_ | refine g_block ?_ | refine g_ret ?_ | refine g_return_n ?_ | refine g_exit ?_ | refine g_skip ?_)
  refine g_draw [3,7,11,12,17,20] [0,1,2,3,4,5,6,7,8,9,10,13,14,15,16,11,12,17,18,19,20,21,22] [] mixed rfl ?_
  refine ob_q rfl rfl ⟨_, fun X Q h => o_move (g_end (h _ _ ⟨rfl, rfl⟩)), ?_⟩
  refine ob_q rfl rfl ⟨_, fun X Q h => o_move (g_end (h _ _ ⟨rfl, rfl⟩)), ?_⟩
  refine ob_q rfl rfl ⟨_, fun X Q h => o_move (g_end (h _ _ ⟨rfl, rfl⟩)), ?_⟩
  refine ob_l rfl rfl fun Qz hz => o_call (play26_spec ia r ys p1 (by omega) B n2 c2 l2 h2 (by omega) s2) rfl rfl ?_
  rintro _ _ ⟨rfl, rfl⟩
  generalize playK ys l2 = zs at q1 q2 ⊢
  refine g_end (hz _ _ ⟨_, ob_fin, ?_⟩)
  clear hz Qz
  refine ob_q rfl rfl ⟨_, fun X Q h => o_move (g_end (h _ _ ⟨rfl, rfl⟩)), ?_⟩
  first | refine ob_q rfl rfl ⟨_, fun X Q h => o_want rfl rfl rfl rfl rfl <| o_move (g_end (h _ _ ⟨rfl, rfl⟩)), ?_⟩ | refine ob_q rfl rfl ⟨_, fun X Q h => o_unwanted rfl rfl rfl rfl rfl (g_end (h _ _ ⟨rfl, rfl⟩)), ?_⟩ | refine ob_q rfl rfl ⟨_, fun X Q h => o_undef rfl rfl rfl (g_end (h _ _ ⟨rfl, rfl⟩)), ?_⟩
  first | refine ob_q rfl rfl ⟨_, fun X Q h => o_want rfl rfl rfl rfl rfl <| o_move (g_end (h _ _ ⟨rfl, rfl⟩)), ?_⟩ | refine ob_q rfl rfl ⟨_, fun X Q h => o_unwanted rfl rfl rfl rfl rfl (g_end (h _ _ ⟨rfl, rfl⟩)), ?_⟩ | refine ob_q rfl rfl ⟨_, fun X Q h => o_undef rfl rfl rfl (g_end (h _ _ ⟨rfl, rfl⟩)), ?_⟩
  refine ob_s2 rfl rfl rfl fun Qz hz => o_want rfl rfl rfl rfl rfl <| o_call (play26_spec ic q ys p1 (by omega) D n3 c3 l3 h3 (by omega) s3) rfl rfl ?_
  rintro _ _ ⟨rfl, rfl⟩
  refine openK r zs fun T d hd => ?_
  refine g_end (hz _ _ ⟨[cellsB r (kerC T zs.length d) 54, psl encE 12 T zs], _, ob_fin, ?_⟩)
  clear hz Qz
  first | refine ob_q rfl rfl ⟨_, fun X Q h => o_pick_t rfl rfl (g_end (h _ _ ⟨rfl, rfl⟩)), ?_⟩ | refine ob_q rfl rfl ⟨_, fun X Q h => o_pick_f rfl rfl (g_end (h _ _ ⟨rfl, rfl⟩)), ?_⟩
  refine ob_q rfl rfl ⟨_, fun X Q h => o_move (g_end (h _ _ ⟨rfl, rfl⟩)), ?_⟩
  first | refine ob_q rfl rfl ⟨_, fun X Q h => o_want rfl rfl rfl rfl rfl <| o_move (g_end (h _ _ ⟨rfl, rfl⟩)), ?_⟩ | refine ob_q rfl rfl ⟨_, fun X Q h => o_unwanted rfl rfl rfl rfl rfl (g_end (h _ _ ⟨rfl, rfl⟩)), ?_⟩ | refine ob_q rfl rfl ⟨_, fun X Q h => o_undef rfl rfl rfl (g_end (h _ _ ⟨rfl, rfl⟩)), ?_⟩
  first | refine ob_q rfl rfl ⟨_, fun X Q h => o_want rfl rfl rfl rfl rfl <| o_move (g_end (h _ _ ⟨rfl, rfl⟩)), ?_⟩ | refine ob_q rfl rfl ⟨_, fun X Q h => o_unwanted rfl rfl rfl rfl rfl (g_end (h _ _ ⟨rfl, rfl⟩)), ?_⟩ | refine ob_q rfl rfl ⟨_, fun X Q h => o_undef rfl rfl rfl (g_end (h _ _ ⟨rfl, rfl⟩)), ?_⟩
  first | refine ob_q rfl rfl ⟨_, fun X Q h => o_want rfl rfl rfl rfl rfl <| o_nil rfl (g_end (h _ _ ⟨rfl, rfl⟩)), ?_⟩ | refine ob_q rfl rfl ⟨_, fun X Q h => o_unwanted rfl rfl rfl rfl rfl (g_end (h _ _ ⟨rfl, rfl⟩)), ?_⟩ | refine ob_q rfl rfl ⟨_, fun X Q h => o_undef rfl rfl rfl (g_end (h _ _ ⟨rfl, rfl⟩)), ?_⟩
  first | refine ob_q rfl rfl ⟨_, fun X Q h => o_want rfl rfl rfl rfl rfl <| o_field rfl (g_end (h _ _ ⟨rfl, rfl⟩)), ?_⟩ | refine ob_q rfl rfl ⟨_, fun X Q h => o_want rfl rfl rfl rfl rfl <| o_fieldR rfl (by omega) (g_end (h _ _ ⟨rfl, rfl⟩)), ?_⟩ | refine ob_q rfl rfl ⟨_, fun X Q h => o_unwanted rfl rfl rfl rfl rfl (g_end (h _ _ ⟨rfl, rfl⟩)), ?_⟩ | refine ob_q rfl rfl ⟨_, fun X Q h => o_undef rfl rfl rfl (g_end (h _ _ ⟨rfl, rfl⟩)), ?_⟩
  refine ob_q rfl rfl ⟨_, fun X Q h => o_want rfl rfl rfl rfl rfl <| o_load1 (v := .slice T zs.length d) rfl rfl (g_end (h _ _ ⟨rfl, rfl⟩)), ?_⟩
  refine ob_l rfl rfl fun Qz hz => o_want rfl rfl rfl rfl rfl <| o_call (linkAll_spec ia zs) rfl rfl ?_
  rintro _ _ ⟨pa, ba, rfl, rfl⟩
  refine g_end (hz _ _ ⟨_, ob_fin, ?_⟩)
  clear hz Qz
  refine ob_l rfl rfl fun Qz hz => o_want rfl rfl rfl rfl rfl <| o_call (ListE_spec 57 [.pointer (some ⟨ba, 0, none⟩)] zs rfl (by omega) [SetAES pa zs, pblk ba (.cells #[.pointer (some ⟨pa, 0, none⟩)] 62 (0, 0))] (fun K => All1ES_iter pa ba zs (by omega) _)) rfl rfl ?_
  rintro _ _ ⟨Sa, ca, rfl, rfl⟩
  (refine G.bring [osl 33 encE 12 Sa ca zs] ?_; refine G.frz ?_)
  refine g_end (hz _ _ ⟨_, ob_fin, ?_⟩)
  clear hz Qz
  refine ob_l rfl rfl fun Qz hz => o_want rfl rfl rfl rfl rfl <| o_callp (Elems_spec Sa T zs.length ca d zs rfl (by omega)) rfl rfl ?_
  rintro _ _ ⟨rfl, rfl⟩
  refine g_end (hz _ _ ⟨_, ob_fin, ?_⟩)
  clear hz Qz
  first | refine ob_q rfl rfl ⟨_, fun X Q h => o_pick_t rfl rfl (g_end (h _ _ ⟨rfl, rfl⟩)), ?_⟩ | refine ob_q rfl rfl ⟨_, fun X Q h => o_pick_f rfl rfl (g_end (h _ _ ⟨rfl, rfl⟩)), ?_⟩
  refine ob_q rfl rfl ⟨_, fun X Q h => o_move (g_end (h _ _ ⟨rfl, rfl⟩)), ?_⟩
  refine ob_l rfl rfl fun Qz hz => o_want rfl rfl rfl rfl rfl <| o_call (wakes26_spec) rfl rfl ?_
  rintro _ _ ⟨rfl, rfl⟩
  refine g_end (hz _ _ ⟨_, ob_fin, ?_⟩)
  clear hz Qz
  first | refine ob_q rfl rfl ⟨_, fun X Q h => o_pick_t rfl rfl (g_end (h _ _ ⟨rfl, rfl⟩)), ?_⟩ | refine ob_q rfl rfl ⟨_, fun X Q h => o_pick_f rfl rfl (g_end (h _ _ ⟨rfl, rfl⟩)), ?_⟩
  refine ob_q rfl rfl ⟨_, fun X Q h => o_assign (g_end (h _ _ ⟨rfl, rfl⟩)), ?_⟩
  refine ob_nil ?_
  repeat (first | refine g_endt ?_ | refine g_end ?_ | refine g_then ?_ | refine g_in_normal ?_ | refine g_then_ret ?_ | refine g_in_ret ?_ | refine g_then_exit ?_ | refine g_in_exit rfl ?_ | refine g_in_exit_ne (by decide) ?_ | refine g_seq ?_ | refine g_region ?_ | refine g_block ?_ | refine g_ret ?_ | refine g_return_n ?_ | refine g_exit ?_ | refine g_skip ?_)
  exact ret1 (K := []) rfl (resT (v := .bool true) rfl) ⟨rfl, rfl⟩
end Go.Proofs.Ytonjhakjnopbjaa
