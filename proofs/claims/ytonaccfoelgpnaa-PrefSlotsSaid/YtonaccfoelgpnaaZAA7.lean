/- Parts of a proof, in order. -/
import Derived.Test.YtonaccfoelgpnaaZAA6
import Derived.ProofKit
import Derived.Deep.Slices
import Derived.Deep.Strs
import Derived.Lib.SmallJoins

set_option linter.unusedSimpArgs false
set_option linter.unusedVariables false
/- The laws on what is supported, on slots and on right preferences: the walks. -/
namespace Go.Proofs.Ytonaccfoelgpnaa
open Go Go.Sl
attribute [local irreducible] Exit.then Exit.inBlock Code.wpIn roundPost bodyPostM runL Ret Meets MeetsD Begin

theorem WithinP_spec (a : Int) (n : Nat) (hn : 0 < n) (hn2 : n ≤ 1000000000) {k : Nat} (h : (a % (n : Int)).toNat = k) : Ctr Try.prog 13 [.int .i64 a, .int .i64 (n : Int)] [] (fun v M => v = .int .i64 (k : Int) ∧ M = []) := by
  rw [← h]; exact Within_spec a n hn hn2
theorem withinP_lt (a : Int) (n : Nat) (hn : 0 < n) : (a % (n : Int)).toNat < n := by
  have h0 : 0 ≤ a % (n : Int) := Int.emod_nonneg _ (by omega)
  have h1 : a % (n : Int) < n := Int.emod_lt_of_pos _ (by omega)
  omega
set_option maxHeartbeats 2000000 in
theorem PrefElems_spec (A : Option Addr) (n c : Nat) (l : List PrefD) (hl : l.length = n) (hm : n ≤ 9223372036854775807) (hc : n ≤ c) (n0 : Int) : Ctr Try.prog 3 [.slice A n c, .int .i64 n0] [psl encP 16 A l] (fun v M => v = .bool true ∧ M = []) := by
  refine spec_of Try.func3 rfl Try.ntmps3 rfl fun w0 F => ?_
  -- hide
  -- ponder/ponderlaw17.PrefElems
  obtain ⟨hv, hhv⟩ : ∃ b, lightP l 60 = b := ⟨_, rfl⟩
  repeat (first | refine g_endt ?_ | refine g_end ?_ | refine g_then ?_ | refine g_in_normal ?_ | refine g_then_ret ?_ | refine g_in_ret ?_ | refine g_then_exit ?_ | refine g_in_exit rfl ?_ | refine g_in_exit_ne (by decide) ?_ | refine g_seq ?_ | refine g_region ?_ | refine g_block ?_ | refine g_ret ?_ | refine g_return_n ?_ | refine g_exit ?_ | refine g_skip ?_)
  refine g_hideR fun Q_ hQ_ => ?_
  refine o_assign ?_
  refine g_end (G.imp (hQ_ .normal _) ?_)
  clear hQ_ Q_
  try refine g_then ?_
  repeat (first | refine g_endt ?_ | refine g_end ?_ | refine g_then ?_ | refine g_in_normal ?_ | refine g_then_ret ?_ | refine g_in_ret ?_ | refine g_then_exit ?_ | refine g_in_exit rfl ?_ | refine g_in_exit_ne (by decide) ?_ | refine g_seq ?_ | refine g_region ?_ | refine g_block ?_ | refine g_ret ?_ | refine g_return_n ?_ | refine g_exit ?_ | refine g_skip ?_)
  refine g_hideR fun Q_ hQ_ => ?_
  refine o_move ?_
  refine o_callp (light17_spec A n c l 60 hl hm hhv) rfl rfl ?_
  rintro _ _ ⟨rfl, rfl⟩
  refine o_not rfl ?_
  refine g_end (G.imp (hQ_ .normal _) ?_)
  clear hQ_ Q_
  try refine g_then ?_
  cases hv with
  | false =>
    first | refine g_seq (g_cond_t rfl (by first | rfl | (simp; done) | (simp; omega) | (simp; assumption)) ?_) | refine g_cond_t rfl (by first | rfl | (simp; done) | (simp; omega) | (simp; assumption)) ?_
    repeat (first | refine g_endt ?_ | refine g_end ?_ | refine g_then ?_ | refine g_in_normal ?_ | refine g_then_ret ?_ | refine g_in_ret ?_ | refine g_then_exit ?_ | refine g_in_exit rfl ?_ | refine g_in_exit_ne (by decide) ?_ | refine g_seq ?_ | refine g_region ?_ | refine g_block ?_ | refine g_ret ?_ | refine g_return_n ?_ | refine g_exit ?_ | refine g_skip ?_)
    refine g_hideR fun Q_ hQ_ => ?_
    refine o_call (wakes17_spec) rfl rfl ?_
    rintro _ _ ⟨rfl, rfl⟩
    refine o_assign ?_
    refine g_end (G.imp (hQ_ .normal _) ?_)
    clear hQ_ Q_
    try refine g_then ?_
    repeat (first | refine g_endt ?_ | refine g_end ?_ | refine g_then ?_ | refine g_in_normal ?_ | refine g_then_ret ?_ | refine g_in_ret ?_ | refine g_then_exit ?_ | refine g_in_exit rfl ?_ | refine g_in_exit_ne (by decide) ?_ | refine g_seq ?_ | refine g_region ?_ | refine g_block ?_ | refine g_ret ?_ | refine g_return_n ?_ | refine g_exit ?_ | refine g_skip ?_)
    exact ret1 (K := []) rfl (resT (v := .bool true) rfl) ⟨rfl, rfl⟩
  | true =>
    obtain ⟨h60, hsm⟩ := lightP_yes hhv
    obtain ⟨ps, hps⟩ : ∃ ps, madeD l = ps := ⟨_, rfl⟩
    have hpl : ps.length ≤ 60 := by rw [← hps]; exact Nat.le_trans (madeD_len l) h60
    first | refine g_seq (g_cond_f rfl (by first | rfl | (simp; done) | (simp; omega) | (simp; assumption)) ?_) | refine g_cond_f rfl (by first | rfl | (simp; done) | (simp; omega) | (simp; assumption)) ?_
    repeat (first | refine g_endt ?_ | refine g_end ?_ | refine g_then ?_ | refine g_in_normal ?_ | refine g_then_ret ?_ | refine g_in_ret ?_ | refine g_then_exit ?_ | refine g_in_exit rfl ?_ | refine g_in_exit_ne (by decide) ?_ | refine g_seq ?_ | refine g_region ?_ | refine g_block ?_ | refine g_ret ?_ | refine g_return_n ?_ | refine g_exit ?_ | refine g_skip ?_)
    refine g_hideR fun Q_ hQ_ => ?_
    refine o_move ?_
    refine o_call (made_spec A n c l hl (by omega) hc hsm hps) rfl rfl ?_
    rintro _ _ ⟨m, r, rfl, rfl⟩
    refine o_move ?_
    refine o_extract rfl rfl ?_
    refine o_extract rfl rfl ?_
    refine o_assign ?_
    refine o_assign ?_
    refine g_end (G.imp (hQ_ .normal _) ?_)
    clear hQ_ Q_
    try refine g_then ?_
    repeat (first | refine g_endt ?_ | refine g_end ?_ | refine g_then ?_ | refine g_in_normal ?_ | refine g_then_ret ?_ | refine g_in_ret ?_ | refine g_then_exit ?_ | refine g_in_exit rfl ?_ | refine g_in_exit_ne (by decide) ?_ | refine g_seq ?_ | refine g_region ?_ | refine g_block ?_ | refine g_ret ?_ | refine g_return_n ?_ | refine g_exit ?_ | refine g_skip ?_)
    refine g_hideR fun Q_ hQ_ => ?_
    refine o_move ?_
    refine o_peql rfl ?_
    refine g_end (G.imp (hQ_ .normal _) ?_)
    clear hQ_ Q_
    try refine g_then ?_
    first | refine g_seq (g_cond_f rfl (by first | rfl | (simp; done) | (simp; omega) | (simp; assumption)) ?_) | refine g_cond_f rfl (by first | rfl | (simp; done) | (simp; omega) | (simp; assumption)) ?_
    refine openRM r 300 ps fun a c0 => ?_
    repeat (first | refine g_endt ?_ | refine g_end ?_ | refine g_then ?_ | refine g_in_normal ?_ | refine g_then_ret ?_ | refine g_in_ret ?_ | refine g_then_exit ?_ | refine g_in_exit rfl ?_ | refine g_in_exit_ne (by decide) ?_ | refine g_seq ?_ | refine g_region ?_ | refine g_block ?_ | refine g_ret ?_ | refine g_return_n ?_ | refine g_exit ?_ | refine g_skip ?_)
    refine g_hideR fun Q_ hQ_ => ?_
    refine o_move ?_
    refine o_nil rfl ?_
    first | refine o_field rfl ?_ | refine o_fieldR rfl (by omega) ?_
    refine o_load1 (v := .slice a ps.length c0) rfl rfl ?_
    refine o_callp (ElemsR15_spec a ps.length c0 ps rfl (by omega)) rfl rfl ?_
    rintro _ _ ⟨S, d, hd, rfl, rfl⟩
    refine o_assign ?_
    refine g_end (G.imp (hQ_ .normal _) ?_)
    clear hQ_ Q_
    try refine g_then ?_
    obtain ⟨es, hes⟩ : ∃ es, refE ps = es := ⟨_, rfl⟩
    have hel : es.length ≤ 60 := by rw [← hes]; exact Nat.le_trans (refE_len ps) hpl
    rw [hes] at hd ⊢
    obtain ⟨k, hk⟩ : ∃ k, (n0 % ((es.length + 1 : Nat) : Int)).toNat = k := ⟨_, rfl⟩
    have hkl : k < es.length + 1 := hk ▸ withinP_lt n0 (es.length + 1) (by omega)
    repeat (first | refine g_endt ?_ | refine g_end ?_ | refine g_then ?_ | refine g_in_normal ?_ | refine g_then_ret ?_ | refine g_in_ret ?_ | refine g_then_exit ?_ | refine g_in_exit rfl ?_ | refine g_in_exit_ne (by decide) ?_ | refine g_seq ?_ | refine g_region ?_ | refine g_block ?_ | refine g_ret ?_ | refine g_return_n ?_ | refine g_exit ?_ | refine g_skip ?_)
    refine g_hideR fun Q_ hQ_ => ?_
    refine o_move ?_
    refine o_move ?_
    refine o_len rfl rfl ?_
    refine o_add (c := ((es.length + 1 : Nat) : Int)) rfl rfl (by omega) (by omega) (by omega) ?_
    refine o_call (WithinP_spec n0 (es.length + 1) (by omega) (by omega) hk) rfl rfl ?_
    rintro _ _ ⟨rfl, rfl⟩
    refine o_assign ?_
    refine g_end (G.imp (hQ_ .normal _) ?_)
    clear hQ_ Q_
    try refine g_then ?_
    repeat (first | refine g_endt ?_ | refine g_end ?_ | refine g_then ?_ | refine g_in_normal ?_ | refine g_then_ret ?_ | refine g_in_ret ?_ | refine g_then_exit ?_ | refine g_in_exit rfl ?_ | refine g_in_exit_ne (by decide) ?_ | refine g_seq ?_ | refine g_region ?_ | refine g_block ?_ | refine g_ret ?_ | refine g_return_n ?_ | refine g_exit ?_ | refine g_skip ?_)
    refine g_hideR fun Q_ hQ_ => ?_
    refine o_move ?_
    refine o_call (Elems17_spec m) rfl rfl ?_
    rintro _ _ ⟨b, rfl, rfl⟩
    refine o_assign ?_
    refine g_end (G.imp (hQ_ .normal _) ?_)
    clear hQ_ Q_
    try refine g_then ?_
    have hit : ∀ K, Iter Try.prog 40 [.pointer (some ⟨b, 0, none⟩)] encVE es (K ++ elK m 300 ps b) := fun K => elems_iter m 300 ps (by omega) b hes _
    refine G.taken (S := S) (xs := es) (enc := encE) (sz := 12) k ?_
    have htk : (es.take k).length = k := by simp; omega
    repeat (first | refine g_endt ?_ | refine g_end ?_ | refine g_then ?_ | refine g_in_normal ?_ | refine g_then_ret ?_ | refine g_in_ret ?_ | refine g_then_exit ?_ | refine g_in_exit rfl ?_ | refine g_in_exit_ne (by decide) ?_ | refine g_seq ?_ | refine g_region ?_ | refine g_block ?_ | refine g_ret ?_ | refine g_return_n ?_ | refine g_exit ?_ | refine g_skip ?_)
    refine g_hide fun Q_ hQ_ => ?_
    refine g_draw [5,9,13,15,18] [0,1,2,3,4,6,7,8,5,9,10,11,12,14,13,15,16,17,18,19,20] [psl encE 12 S (es.take k), psl encE 12 S es, pM b m] mixed rfl ?_
    refine ob_q rfl rfl ⟨_, fun X Q h => o_move (g_end (h _ _ ⟨rfl, rfl⟩)), ?_⟩
    refine ob_q rfl rfl ⟨_, fun X Q h => o_fnneq rfl (fun w => by kernel_rfl) (fun w => by kernel_rfl) (g_end (h _ _ ⟨rfl, rfl⟩)), ?_⟩
    refine ob_q rfl rfl ⟨_, fun X Q h => o_move (g_end (h _ _ ⟨rfl, rfl⟩)), ?_⟩
    first | refine ob_q rfl rfl ⟨_, fun X Q h => o_want rfl rfl rfl rfl rfl <| o_move (g_end (h _ _ ⟨rfl, rfl⟩)), ?_⟩ | refine ob_q rfl rfl ⟨_, fun X Q h => o_unwanted rfl rfl rfl rfl rfl (g_end (h _ _ ⟨rfl, rfl⟩)), ?_⟩ | refine ob_q rfl rfl ⟨_, fun X Q h => o_undef rfl rfl rfl (g_end (h _ _ ⟨rfl, rfl⟩)), ?_⟩
    first | refine ob_q rfl rfl ⟨_, fun X Q h => o_want rfl rfl rfl rfl rfl <| o_move (g_end (h _ _ ⟨rfl, rfl⟩)), ?_⟩ | refine ob_q rfl rfl ⟨_, fun X Q h => o_unwanted rfl rfl rfl rfl rfl (g_end (h _ _ ⟨rfl, rfl⟩)), ?_⟩ | refine ob_q rfl rfl ⟨_, fun X Q h => o_undef rfl rfl rfl (g_end (h _ _ ⟨rfl, rfl⟩)), ?_⟩
    first | refine ob_q rfl rfl ⟨_, fun X Q h => o_want rfl rfl rfl rfl rfl <| o_move (g_end (h _ _ ⟨rfl, rfl⟩)), ?_⟩ | refine ob_q rfl rfl ⟨_, fun X Q h => o_unwanted rfl rfl rfl rfl rfl (g_end (h _ _ ⟨rfl, rfl⟩)), ?_⟩ | refine ob_q rfl rfl ⟨_, fun X Q h => o_undef rfl rfl rfl (g_end (h _ _ ⟨rfl, rfl⟩)), ?_⟩
    first | refine ob_q rfl rfl ⟨_, fun X Q h => o_want rfl rfl rfl rfl rfl <| o_move (g_end (h _ _ ⟨rfl, rfl⟩)), ?_⟩ | refine ob_q rfl rfl ⟨_, fun X Q h => o_unwanted rfl rfl rfl rfl rfl (g_end (h _ _ ⟨rfl, rfl⟩)), ?_⟩ | refine ob_q rfl rfl ⟨_, fun X Q h => o_undef rfl rfl rfl (g_end (h _ _ ⟨rfl, rfl⟩)), ?_⟩
    refine ob_q rfl rfl ⟨_, fun X Q h => o_want rfl rfl rfl rfl rfl <| o_uptoP (k := k) rfl rfl rfl (by omega) (g_end (h _ _ ⟨rfl, rfl⟩)), ?_⟩
    refine ob_l rfl rfl fun Qz hz => o_want rfl rfl rfl rfl rfl <| o_callx [pM b m] [MemP m 300 ps] (FirstKE_spec 40 [.pointer (some ⟨b, 0, none⟩)] k (by omega) es (by omega) (elK m 300 ps b) hit (by omega)) rfl rfl ?_
    rintro _ _ ⟨S2, e2, rfl, rfl⟩
    refine G.bring [osl 42 encE 12 S2 e2 (es.take k)] (G.frzc fun hroom2 => ?_)
    refine g_end (hz _ _ ⟨_, ob_fin, ?_⟩)
    clear hz Qz
    refine ob_l rfl rfl fun Qz hz => o_want rfl rfl rfl rfl rfl <| o_callp (Elems_spec S2 S k e2 d (es.take k) htk (by omega)) rfl rfl ?_
    rintro _ _ ⟨rfl, rfl⟩
    refine g_end (hz _ _ ⟨_, ob_fin, ?_⟩)
    clear hz Qz
    first | refine ob_q rfl rfl ⟨_, fun X Q h => o_pick_t rfl rfl (g_end (h _ _ ⟨rfl, rfl⟩)), ?_⟩ | refine ob_q rfl rfl ⟨_, fun X Q h => o_pick_f rfl rfl (g_end (h _ _ ⟨rfl, rfl⟩)), ?_⟩
    refine ob_q rfl rfl ⟨_, fun X Q h => o_move (g_end (h _ _ ⟨rfl, rfl⟩)), ?_⟩
    first | refine ob_q rfl rfl ⟨_, fun X Q h => o_want rfl rfl rfl rfl rfl <| o_move (g_end (h _ _ ⟨rfl, rfl⟩)), ?_⟩ | refine ob_q rfl rfl ⟨_, fun X Q h => o_unwanted rfl rfl rfl rfl rfl (g_end (h _ _ ⟨rfl, rfl⟩)), ?_⟩ | refine ob_q rfl rfl ⟨_, fun X Q h => o_undef rfl rfl rfl (g_end (h _ _ ⟨rfl, rfl⟩)), ?_⟩
    first | refine ob_q rfl rfl ⟨_, fun X Q h => o_want rfl rfl rfl rfl rfl <| o_move (g_end (h _ _ ⟨rfl, rfl⟩)), ?_⟩ | refine ob_q rfl rfl ⟨_, fun X Q h => o_unwanted rfl rfl rfl rfl rfl (g_end (h _ _ ⟨rfl, rfl⟩)), ?_⟩ | refine ob_q rfl rfl ⟨_, fun X Q h => o_undef rfl rfl rfl (g_end (h _ _ ⟨rfl, rfl⟩)), ?_⟩
    refine ob_l rfl rfl fun Qz hz => o_want rfl rfl rfl rfl rfl <| o_callx [pM b m] [MemP m 300 ps] (ListE17_spec m 300 ps (by omega) b hes) rfl rfl ?_
    rintro _ _ ⟨S3, e3, rfl, rfl⟩
    refine G.bring [osl 42 encE 12 S3 e3 es] (G.frzc fun hroom3 => ?_)
    refine g_end (hz _ _ ⟨_, ob_fin, ?_⟩)
    clear hz Qz
    refine ob_l rfl rfl fun Qz hz => o_want rfl rfl rfl rfl rfl <| o_callp (Elems_spec S3 S es.length e3 d es rfl (by omega)) rfl rfl ?_
    rintro _ _ ⟨rfl, rfl⟩
    refine g_end (hz _ _ ⟨_, ob_fin, ?_⟩)
    clear hz Qz
    first | refine ob_q rfl rfl ⟨_, fun X Q h => o_pick_t rfl rfl (g_end (h _ _ ⟨rfl, rfl⟩)), ?_⟩ | refine ob_q rfl rfl ⟨_, fun X Q h => o_pick_f rfl rfl (g_end (h _ _ ⟨rfl, rfl⟩)), ?_⟩
    refine ob_q rfl rfl ⟨_, fun X Q h => o_move (g_end (h _ _ ⟨rfl, rfl⟩)), ?_⟩
    refine ob_l rfl rfl fun Qz hz => o_want rfl rfl rfl rfl rfl <| o_call (wakes17_spec) rfl rfl ?_
    rintro _ _ ⟨rfl, rfl⟩
    refine g_end (hz _ _ ⟨_, ob_fin, ?_⟩)
    clear hz Qz
    first | refine ob_q rfl rfl ⟨_, fun X Q h => o_pick_t rfl rfl (g_end (h _ _ ⟨rfl, rfl⟩)), ?_⟩ | refine ob_q rfl rfl ⟨_, fun X Q h => o_pick_f rfl rfl (g_end (h _ _ ⟨rfl, rfl⟩)), ?_⟩
    refine ob_q rfl rfl ⟨_, fun X Q h => o_assign (g_end (h _ _ ⟨rfl, rfl⟩)), ?_⟩
    refine ob_nil ?_
    refine G.imp (hQ_ .normal _) ?_
    clear hQ_ Q_
    try refine g_then ?_
    repeat (first | refine g_endt ?_ | refine g_end ?_ | refine g_then ?_ | refine g_in_normal ?_ | refine g_then_ret ?_ | refine g_in_ret ?_ | refine g_then_exit ?_ | refine g_in_exit rfl ?_ | refine g_in_exit_ne (by decide) ?_ | refine g_seq ?_ | refine g_region ?_ | refine g_block ?_ | refine g_ret ?_ | refine g_return_n ?_ | refine g_exit ?_ | refine g_skip ?_)
    exact ret1 (K := []) rfl (resT (v := .bool true) rfl) ⟨rfl, rfl⟩
/-! ### Slots -/
theorem SlotRK_spec (r : Nat) (room : Int) (a : Option Addr) (c0 : Nat) (ps : List PrefD) (hp : ps.length ≤ 10000) (id attr : SymD) {xs : List PrefD} (hx : slotL ps ⟨id, attr⟩ = xs) : Ctr Try.prog 21 [.pointer (some ⟨r, 0, none⟩), id.val, attr.val] [psl encP 16 a ps, rC r room a ps.length c0]
    (fun v M => ∃ S c, v = .slice S xs.length c ∧ M = [oP S c xs, rC r room a ps.length c0]) := by
  rw [← hx]; exact SlotR15_spec r room a c0 ps hp id attr
theorem ListS17_spec (m : Nat) (room : Int) (ps : List PrefD) (hp : ps.length ≤ 90000) (b b1 b2 b3 : Nat) (id attr : SymD) {xs : List PrefD} (hx : slotL ps ⟨id, attr⟩ = xs) : Ctr Try.prog 19 [.func (.func 72) #[] #[.pointer (some ⟨b, 0, none⟩)]] (toldK b b1 b2 b3 m id attr ++ [MemP m room ps])
    (fun v M => ∃ S c, v = .slice S xs.length c ∧ M = oP S c xs :: (toldK b b1 b2 b3 m id attr ++ [MemP m room ps])) := by
  have hl : xs.length ≤ ps.length := by rw [← hx]; exact List.length_filter_le _ _
  exact ListP_spec 72 [.pointer (some ⟨b, 0, none⟩)] xs rfl (by omega) (toldK b b1 b2 b3 m id attr ++ [MemP m room ps]) (fun K => slot_iter m room ps (by omega) b b1 b2 b3 id attr hx _)
set_option maxHeartbeats 4000000 in
theorem PrefSlots_spec (A : Option Addr) (n c : Nat) (l : List PrefD) (hl : l.length = n) (hm : n ≤ 9223372036854775807) (hc : n ≤ c) (id attr : SymD) : Ctr Try.prog 4 [.slice A n c, id.val, attr.val] [psl encP 16 A l] (fun v M => v = .bool true ∧ M = []) := by
  refine spec_of Try.func4 rfl Try.ntmps4 rfl fun w0 F => ?_
  -- hide
  -- ponder/ponderlaw17.PrefSlots
  obtain ⟨hv, hhv⟩ : ∃ b, lightP l 60 = b := ⟨_, rfl⟩
  repeat (first | refine g_endt ?_ | refine g_end ?_ | refine g_then ?_ | refine g_in_normal ?_ | refine g_then_ret ?_ | refine g_in_ret ?_ | refine g_then_exit ?_ | refine g_in_exit rfl ?_ | refine g_in_exit_ne (by decide) ?_ | refine g_seq ?_ | refine g_region ?_ | refine g_block ?_ | refine g_ret ?_ | refine g_return_n ?_ | refine g_exit ?_ | refine g_skip ?_)
  refine g_hideR fun Q_ hQ_ => ?_
  refine o_boxc id.val.cells rfl rfl fun c4 => ?_
  refine o_boxc attr.val.cells rfl rfl fun c5 => ?_
  refine o_assign ?_
  refine g_end (G.imp (hQ_ .normal _) ?_)
  clear hQ_ Q_
  try refine g_then ?_
  repeat (first | refine g_endt ?_ | refine g_end ?_ | refine g_then ?_ | refine g_in_normal ?_ | refine g_then_ret ?_ | refine g_in_ret ?_ | refine g_then_exit ?_ | refine g_in_exit rfl ?_ | refine g_in_exit_ne (by decide) ?_ | refine g_seq ?_ | refine g_region ?_ | refine g_block ?_ | refine g_ret ?_ | refine g_return_n ?_ | refine g_exit ?_ | refine g_skip ?_)
  refine g_hideR fun Q_ hQ_ => ?_
  refine o_move ?_
  refine o_callp (light17_spec A n c l 60 hl hm hhv) rfl rfl ?_
  rintro _ _ ⟨rfl, rfl⟩
  refine o_not rfl ?_
  refine g_end (G.imp (hQ_ .normal _) ?_)
  clear hQ_ Q_
  try refine g_then ?_
  cases hv with
  | false =>
    first | refine g_seq (g_cond_t rfl (by first | rfl | (simp; done) | (simp; omega) | (simp; assumption)) ?_) | refine g_cond_t rfl (by first | rfl | (simp; done) | (simp; omega) | (simp; assumption)) ?_
    repeat (first | refine g_endt ?_ | refine g_end ?_ | refine g_then ?_ | refine g_in_normal ?_ | refine g_then_ret ?_ | refine g_in_ret ?_ | refine g_then_exit ?_ | refine g_in_exit rfl ?_ | refine g_in_exit_ne (by decide) ?_ | refine g_seq ?_ | refine g_region ?_ | refine g_block ?_ | refine g_ret ?_ | refine g_return_n ?_ | refine g_exit ?_ | refine g_skip ?_)
    refine g_hideR fun Q_ hQ_ => ?_
    refine o_call (wakes17_spec) rfl rfl ?_
    rintro _ _ ⟨rfl, rfl⟩
    refine o_assign ?_
    refine g_end (G.imp (hQ_ .normal _) ?_)
    clear hQ_ Q_
    try refine g_then ?_
    repeat (first | refine g_endt ?_ | refine g_end ?_ | refine g_then ?_ | refine g_in_normal ?_ | refine g_then_ret ?_ | refine g_in_ret ?_ | refine g_then_exit ?_ | refine g_in_exit rfl ?_ | refine g_in_exit_ne (by decide) ?_ | refine g_seq ?_ | refine g_region ?_ | refine g_block ?_ | refine g_ret ?_ | refine g_return_n ?_ | refine g_exit ?_ | refine g_skip ?_)
    exact ret1 (K := []) rfl (resT (v := .bool true) rfl) ⟨rfl, rfl⟩
  | true =>
    obtain ⟨h60, hsm⟩ := lightP_yes hhv
    obtain ⟨ps, hps⟩ : ∃ ps, madeD l = ps := ⟨_, rfl⟩
    have hpl : ps.length ≤ 60 := by rw [← hps]; exact Nat.le_trans (madeD_len l) h60
    first | refine g_seq (g_cond_f rfl (by first | rfl | (simp; done) | (simp; omega) | (simp; assumption)) ?_) | refine g_cond_f rfl (by first | rfl | (simp; done) | (simp; omega) | (simp; assumption)) ?_
    repeat (first | refine g_endt ?_ | refine g_end ?_ | refine g_then ?_ | refine g_in_normal ?_ | refine g_then_ret ?_ | refine g_in_ret ?_ | refine g_then_exit ?_ | refine g_in_exit rfl ?_ | refine g_in_exit_ne (by decide) ?_ | refine g_seq ?_ | refine g_region ?_ | refine g_block ?_ | refine g_ret ?_ | refine g_return_n ?_ | refine g_exit ?_ | refine g_skip ?_)
    refine g_hideR fun Q_ hQ_ => ?_
    refine o_move ?_
    refine o_call (made_spec A n c l hl (by omega) hc hsm hps) rfl rfl ?_
    rintro _ _ ⟨m, r, rfl, rfl⟩
    refine o_move ?_
    refine o_extract rfl rfl ?_
    refine o_extract rfl rfl ?_
    refine o_assign ?_
    refine o_assign ?_
    refine g_end (G.imp (hQ_ .normal _) ?_)
    clear hQ_ Q_
    try refine g_then ?_
    repeat (first | refine g_endt ?_ | refine g_end ?_ | refine g_then ?_ | refine g_in_normal ?_ | refine g_then_ret ?_ | refine g_in_ret ?_ | refine g_then_exit ?_ | refine g_in_exit rfl ?_ | refine g_in_exit_ne (by decide) ?_ | refine g_seq ?_ | refine g_region ?_ | refine g_block ?_ | refine g_ret ?_ | refine g_return_n ?_ | refine g_exit ?_ | refine g_skip ?_)
    refine g_hideR fun Q_ hQ_ => ?_
    refine o_move ?_
    refine o_peql rfl ?_
    refine g_end (G.imp (hQ_ .normal _) ?_)
    clear hQ_ Q_
    try refine g_then ?_
    first | refine g_seq (g_cond_f rfl (by first | rfl | (simp; done) | (simp; omega) | (simp; assumption)) ?_) | refine g_cond_f rfl (by first | rfl | (simp; done) | (simp; omega) | (simp; assumption)) ?_
    repeat (first | refine g_endt ?_ | refine g_end ?_ | refine g_then ?_ | refine g_in_normal ?_ | refine g_then_ret ?_ | refine g_in_ret ?_ | refine g_then_exit ?_ | refine g_in_exit rfl ?_ | refine g_in_exit_ne (by decide) ?_ | refine g_seq ?_ | refine g_region ?_ | refine g_block ?_ | refine g_ret ?_ | refine g_return_n ?_ | refine g_exit ?_ | refine g_skip ?_)
    refine g_hideR fun Q_ hQ_ => ?_
    refine o_assign ?_
    refine g_end (G.imp (hQ_ .normal _) ?_)
    clear hQ_ Q_
    try refine g_then ?_
    repeat (first | refine g_endt ?_ | refine g_end ?_ | refine g_then ?_ | refine g_in_normal ?_ | refine g_then_ret ?_ | refine g_in_ret ?_ | refine g_then_exit ?_ | refine g_in_exit rfl ?_ | refine g_in_exit_ne (by decide) ?_ | refine g_seq ?_ | refine g_region ?_ | refine g_block ?_ | refine g_ret ?_ | refine g_return_n ?_ | refine g_exit ?_ | refine g_skip ?_)
    refine g_loop (σ := {i : Nat // i ≤ ps.length}) (S := fun i => [(4, .pointer (some ⟨c4, 0, none⟩)), (5, .pointer (some ⟨c5, 0, none⟩)), (7, .pointer (some ⟨m, 0, none⟩)), (8, .pointer (some ⟨r, 0, none⟩)), (9, .int .i64 (i.1 : Int))]) (H := fun _ => [cSym c4 id, cSym c5 attr, MemP m 300 ps, RefM r 300 ps]) (μ := fun i => ps.length - i.1) (s0 := ⟨0, Nat.zero_le _⟩) (Sat.mem ⟨rfl, rfl, rfl, rfl, rfl, trivial⟩) ?_
    rintro ⟨i, hi⟩ ρ'
    dsimp only at hi ⊢
    refine openRM r 300 ps fun a c0 => ?_
    repeat (first | refine g_endt ?_ | refine g_end ?_ | refine g_then ?_ | refine g_in_normal ?_ | refine g_then_ret ?_ | refine g_in_ret ?_ | refine g_then_exit ?_ | refine g_in_exit rfl ?_ | refine g_in_exit_ne (by decide) ?_ | refine g_seq ?_ | refine g_region ?_ | refine g_block ?_ | refine g_ret ?_ | refine g_return_n ?_ | refine g_exit ?_ | refine g_skip ?_)
    refine g_hideR fun Q_ hQ_ => ?_
    refine o_move ?_
    refine o_move ?_
    refine o_nil rfl ?_
    first | refine o_field rfl ?_ | refine o_fieldR rfl (by omega) ?_
    refine o_load1 (v := .slice a ps.length c0) rfl rfl ?_
    refine o_len rfl rfl ?_
    refine o_lss rfl rfl ?_
    refine g_end (G.imp (hQ_ .normal _) ?_)
    clear hQ_ Q_
    try refine g_then ?_
    by_cases hin : i < ps.length
    · first | refine g_seq (g_cond_t rfl (by first | rfl | (simp; done) | (simp; omega) | (simp; assumption)) ?_) | refine g_cond_t rfl (by first | rfl | (simp; done) | (simp; omega) | (simp; assumption)) ?_
      obtain ⟨p, hp⟩ : ∃ p, ps[i]? = some p := ⟨_, List.getElem?_eq_getElem hin⟩
      obtain ⟨xs, hxs⟩ : ∃ xs, slotL ps ⟨p.id, p.attr⟩ = xs := ⟨_, rfl⟩
      have hxl : xs.length ≤ ps.length := by rw [← hxs]; exact List.length_filter_le _ _
      repeat (first | refine g_endt ?_ | refine g_end ?_ | refine g_then ?_ | refine g_in_normal ?_ | refine g_then_ret ?_ | refine g_in_ret ?_ | refine g_then_exit ?_ | refine g_in_exit rfl ?_ | refine g_in_exit_ne (by decide) ?_ | refine g_seq ?_ | refine g_region ?_ | refine g_block ?_ | refine g_ret ?_ | refine g_return_n ?_ | refine g_exit ?_ | refine g_skip ?_)
      repeat (first | refine g_endt ?_ | refine g_end ?_ | refine g_then ?_ | refine g_in_normal ?_ | refine g_then_ret ?_ | refine g_in_ret ?_ | refine g_then_exit ?_ | refine g_in_exit rfl ?_ | refine g_in_exit_ne (by decide) ?_ | refine g_seq ?_ | refine g_region ?_ | refine g_block ?_ | refine g_ret ?_ | refine g_return_n ?_ | refine g_exit ?_ | refine g_skip ?_)
      refine g_hide fun Q_ hQ_ => ?_
      refine g_draw [17,18,36,37] [0,1,2,3,4,5,6,7,8,9,10,11,12,13,14,15,16,19,20,21,22,23,24,25,26,27,28,29,30,31,32,33,34,35,17,18,36,37,38] [rC r 300 a ps.length c0, psl encP 16 a ps] mixed (by kernel_rfl) ?_
      refine ob_q rfl rfl ⟨_, fun X Q h => o_move (g_end (h _ _ ⟨rfl, rfl⟩)), ?_⟩
      refine ob_q rfl rfl ⟨_, fun X Q h => o_move (g_end (h _ _ ⟨rfl, rfl⟩)), ?_⟩
      refine ob_q rfl rfl ⟨_, fun X Q h => o_nil rfl (g_end (h _ _ ⟨rfl, rfl⟩)), ?_⟩
      first | refine ob_q rfl rfl ⟨_, fun X Q h => o_field rfl (g_end (h _ _ ⟨rfl, rfl⟩)), ?_⟩ | refine ob_q rfl rfl ⟨_, fun X Q h => o_fieldR rfl (by omega) (g_end (h _ _ ⟨rfl, rfl⟩)), ?_⟩
      refine ob_q rfl rfl ⟨_, fun X Q h => o_load1 (v := .slice a ps.length c0) rfl rfl (g_end (h _ _ ⟨rfl, rfl⟩)), ?_⟩
      refine ob_q rfl rfl ⟨_, fun X Q h => o_move (g_end (h _ _ ⟨rfl, rfl⟩)), ?_⟩
      refine ob_q rfl rfl ⟨_, fun X Q h => o_indexR (ys := ps) (i := i) rfl rfl rfl hin rfl rfl (g_end (h _ _ ⟨rfl, rfl⟩)), ?_⟩
      refine ob_q rfl rfl ⟨_, fun X Q h => o_fieldR rfl (by omega) (g_end (h _ _ ⟨rfl, rfl⟩)), ?_⟩
      refine ob_q rfl rfl ⟨_, fun X Q h => o_loadEN (ys := ps) (z := p) (v := p.id.val) rfl hp rfl rfl (g_end (h _ _ ⟨rfl, rfl⟩)), ?_⟩
      refine ob_q rfl rfl ⟨_, fun X Q h => o_move (g_end (h _ _ ⟨rfl, rfl⟩)), ?_⟩
      refine ob_q rfl rfl ⟨_, fun X Q h => o_nil rfl (g_end (h _ _ ⟨rfl, rfl⟩)), ?_⟩
      first | refine ob_q rfl rfl ⟨_, fun X Q h => o_field rfl (g_end (h _ _ ⟨rfl, rfl⟩)), ?_⟩ | refine ob_q rfl rfl ⟨_, fun X Q h => o_fieldR rfl (by omega) (g_end (h _ _ ⟨rfl, rfl⟩)), ?_⟩
      refine ob_q rfl rfl ⟨_, fun X Q h => o_load1 (v := .slice a ps.length c0) rfl rfl (g_end (h _ _ ⟨rfl, rfl⟩)), ?_⟩
      refine ob_q rfl rfl ⟨_, fun X Q h => o_move (g_end (h _ _ ⟨rfl, rfl⟩)), ?_⟩
      refine ob_q rfl rfl ⟨_, fun X Q h => o_indexR (ys := ps) (i := i) rfl rfl rfl hin rfl rfl (g_end (h _ _ ⟨rfl, rfl⟩)), ?_⟩
      refine ob_q rfl rfl ⟨_, fun X Q h => o_fieldR rfl (by omega) (g_end (h _ _ ⟨rfl, rfl⟩)), ?_⟩
      refine ob_q rfl rfl ⟨_, fun X Q h => o_loadEN (ys := ps) (z := p) (v := p.attr.val) rfl hp rfl rfl (g_end (h _ _ ⟨rfl, rfl⟩)), ?_⟩
      refine ob_q rfl rfl ⟨_, fun X Q h => o_move (g_end (h _ _ ⟨rfl, rfl⟩)), ?_⟩
      refine ob_q rfl rfl ⟨_, fun X Q h => o_move (g_end (h _ _ ⟨rfl, rfl⟩)), ?_⟩
      refine ob_q rfl rfl ⟨_, fun X Q h => o_nil rfl (g_end (h _ _ ⟨rfl, rfl⟩)), ?_⟩
      first | refine ob_q rfl rfl ⟨_, fun X Q h => o_field rfl (g_end (h _ _ ⟨rfl, rfl⟩)), ?_⟩ | refine ob_q rfl rfl ⟨_, fun X Q h => o_fieldR rfl (by omega) (g_end (h _ _ ⟨rfl, rfl⟩)), ?_⟩
      refine ob_q rfl rfl ⟨_, fun X Q h => o_load1 (v := .slice a ps.length c0) rfl rfl (g_end (h _ _ ⟨rfl, rfl⟩)), ?_⟩
      refine ob_q rfl rfl ⟨_, fun X Q h => o_move (g_end (h _ _ ⟨rfl, rfl⟩)), ?_⟩
      refine ob_q rfl rfl ⟨_, fun X Q h => o_indexR (ys := ps) (i := i) rfl rfl rfl hin rfl rfl (g_end (h _ _ ⟨rfl, rfl⟩)), ?_⟩
      refine ob_q rfl rfl ⟨_, fun X Q h => o_fieldR rfl (by omega) (g_end (h _ _ ⟨rfl, rfl⟩)), ?_⟩
      refine ob_q rfl rfl ⟨_, fun X Q h => o_loadEN (ys := ps) (z := p) (v := p.id.val) rfl hp rfl rfl (g_end (h _ _ ⟨rfl, rfl⟩)), ?_⟩
      refine ob_q rfl rfl ⟨_, fun X Q h => o_move (g_end (h _ _ ⟨rfl, rfl⟩)), ?_⟩
      refine ob_q rfl rfl ⟨_, fun X Q h => o_nil rfl (g_end (h _ _ ⟨rfl, rfl⟩)), ?_⟩
      first | refine ob_q rfl rfl ⟨_, fun X Q h => o_field rfl (g_end (h _ _ ⟨rfl, rfl⟩)), ?_⟩ | refine ob_q rfl rfl ⟨_, fun X Q h => o_fieldR rfl (by omega) (g_end (h _ _ ⟨rfl, rfl⟩)), ?_⟩
      refine ob_q rfl rfl ⟨_, fun X Q h => o_load1 (v := .slice a ps.length c0) rfl rfl (g_end (h _ _ ⟨rfl, rfl⟩)), ?_⟩
      refine ob_q rfl rfl ⟨_, fun X Q h => o_move (g_end (h _ _ ⟨rfl, rfl⟩)), ?_⟩
      refine ob_q rfl rfl ⟨_, fun X Q h => o_indexR (ys := ps) (i := i) rfl rfl rfl hin rfl rfl (g_end (h _ _ ⟨rfl, rfl⟩)), ?_⟩
      refine ob_q rfl rfl ⟨_, fun X Q h => o_fieldR rfl (by omega) (g_end (h _ _ ⟨rfl, rfl⟩)), ?_⟩
      refine ob_q rfl rfl ⟨_, fun X Q h => o_loadEN (ys := ps) (z := p) (v := p.attr.val) rfl hp rfl rfl (g_end (h _ _ ⟨rfl, rfl⟩)), ?_⟩
      refine ob_l rfl rfl fun Qz hz => o_call (Slot17_spec m p.id p.attr) rfl rfl ?_
      rintro _ _ ⟨b, b1, b2, b3, rfl, rfl⟩
      refine g_end (hz _ _ ⟨_, ob_fin, ?_⟩)
      clear hz Qz
      refine ob_l rfl rfl fun Qz hz => o_callx (toldK b b1 b2 b3 m p.id p.attr) [MemP m 300 ps] (ListS17_spec m 300 ps (by omega) b b1 b2 b3 p.id p.attr hxs) rfl rfl ?_
      rintro _ _ ⟨S2, e2, rfl, rfl⟩
      refine G.bring [oP S2 e2 xs] (G.frz ?_)
      refine g_end (hz _ _ ⟨_, ob_fin, ?_⟩)
      clear hz Qz
      refine ob_l rfl rfl fun Qz hz => o_callx [psl encP 16 a ps] [rC r 300 a ps.length c0] (SlotRK_spec r 300 a c0 ps (by omega) p.id p.attr hxs) rfl rfl ?_
      rintro _ _ ⟨S3, e3, rfl, rfl⟩
      refine G.bring [oP S3 e3 xs] (G.frz ?_)
      refine g_end (hz _ _ ⟨_, ob_fin, ?_⟩)
      clear hz Qz
      refine ob_l rfl rfl fun Qz hz => o_callp (Prefs_spec S2 S3 xs.length e2 e3 xs rfl (by omega)) rfl rfl ?_
      rintro _ _ ⟨rfl, rfl⟩
      refine g_end (hz _ _ ⟨_, ob_fin, ?_⟩)
      clear hz Qz
      refine ob_q rfl rfl ⟨_, fun X Q h => o_not rfl (g_end (h _ _ ⟨rfl, rfl⟩)), ?_⟩
      refine ob_nil ?_
      refine G.imp (hQ_ .normal _) ?_
      clear hQ_ Q_
      try refine g_then ?_
      first | refine g_seq (g_cond_f rfl (by first | rfl | (simp; done) | (simp; omega) | (simp; assumption)) ?_) | refine g_cond_f rfl (by first | rfl | (simp; done) | (simp; omega) | (simp; assumption)) ?_
      refine shutRM r 300 ps a c0 rfl ?_
      repeat (first | refine g_endt ?_ | refine g_end ?_ | refine g_then ?_ | refine g_in_normal ?_ | refine g_then_ret ?_ | refine g_in_ret ?_ | refine g_then_exit ?_ | refine g_in_exit rfl ?_ | refine g_in_exit_ne (by decide) ?_ | refine g_seq ?_ | refine g_region ?_ | refine g_block ?_ | refine g_ret ?_ | refine g_return_n ?_ | refine g_exit ?_ | refine g_skip ?_)
      repeat (first | refine g_endt ?_ | refine g_end ?_ | refine g_then ?_ | refine g_in_normal ?_ | refine g_then_ret ?_ | refine g_in_ret ?_ | refine g_then_exit ?_ | refine g_in_exit rfl ?_ | refine g_in_exit_ne (by decide) ?_ | refine g_seq ?_ | refine g_region ?_ | refine g_block ?_ | refine g_ret ?_ | refine g_return_n ?_ | refine g_exit ?_ | refine g_skip ?_)
      refine g_hideR fun Q_ hQ_ => ?_
      refine o_move ?_
      refine o_add (c := ((i + 1 : Nat) : Int)) rfl rfl (by omega) (by omega) (by omega) ?_
      refine o_assign ?_
      refine g_end (G.imp (hQ_ .normal _) ?_)
      clear hQ_ Q_
      try refine g_then ?_
      repeat (first | refine g_endt ?_ | refine g_end ?_ | refine g_then ?_ | refine g_in_normal ?_ | refine g_then_ret ?_ | refine g_in_ret ?_ | refine g_then_exit ?_ | refine g_in_exit rfl ?_ | refine g_in_exit_ne (by decide) ?_ | refine g_seq ?_ | refine g_region ?_ | refine g_block ?_ | refine g_ret ?_ | refine g_return_n ?_ | refine g_exit ?_ | refine g_skip ?_)
      exact g_meets ⟨i + 1, hin⟩ (by show ps.length - (i + 1) < ps.length - i; omega) (Sat.mem ⟨rfl, rfl, rfl, rfl, rfl, trivial⟩)
    · first | refine g_seq (g_cond_f rfl (by simp; omega) ?_) | refine g_cond_f rfl (by simp; omega) ?_
      obtain ⟨xs, hxs⟩ : ∃ xs, slotL ps ⟨id, attr⟩ = xs := ⟨_, rfl⟩
      have hxl : xs.length ≤ ps.length := by rw [← hxs]; exact List.length_filter_le _ _
      repeat (first | refine g_endt ?_ | refine g_end ?_ | refine g_then ?_ | refine g_in_normal ?_ | refine g_then_ret ?_ | refine g_in_ret ?_ | refine g_then_exit ?_ | refine g_in_exit rfl ?_ | refine g_in_exit_ne (by decide) ?_ | refine g_seq ?_ | refine g_region ?_ | refine g_block ?_ | refine g_ret ?_ | refine g_return_n ?_ | refine g_exit ?_ | refine g_skip ?_)
      refine g_hide fun Q_ hQ_ => ?_
      refine g_draw [3,4,8,9,11] [0,1,2,5,6,7,3,4,8,9,10,11,12,13] [cSym c4 id, cSym c5 attr] mixed rfl ?_
      refine ob_q rfl rfl ⟨_, fun X Q h => o_move (g_end (h _ _ ⟨rfl, rfl⟩)), ?_⟩
      refine ob_q rfl rfl ⟨_, fun X Q h => o_loadN (v := id.val) rfl rfl rfl (g_end (h _ _ ⟨rfl, rfl⟩)), ?_⟩
      refine ob_q rfl rfl ⟨_, fun X Q h => o_loadN (v := attr.val) rfl rfl rfl (g_end (h _ _ ⟨rfl, rfl⟩)), ?_⟩
      refine ob_q rfl rfl ⟨_, fun X Q h => o_move (g_end (h _ _ ⟨rfl, rfl⟩)), ?_⟩
      refine ob_q rfl rfl ⟨_, fun X Q h => o_loadN (v := id.val) rfl rfl rfl (g_end (h _ _ ⟨rfl, rfl⟩)), ?_⟩
      refine ob_q rfl rfl ⟨_, fun X Q h => o_loadN (v := attr.val) rfl rfl rfl (g_end (h _ _ ⟨rfl, rfl⟩)), ?_⟩
      refine ob_l rfl rfl fun Qz hz => o_call (Slot17_spec m id attr) rfl rfl ?_
      rintro _ _ ⟨b, b1, b2, b3, rfl, rfl⟩
      refine g_end (hz _ _ ⟨_, ob_fin, ?_⟩)
      clear hz Qz
      refine ob_l rfl rfl fun Qz hz => o_callx (toldK b b1 b2 b3 m id attr) [MemP m 300 ps] (ListS17_spec m 300 ps (by omega) b b1 b2 b3 id attr hxs) rfl rfl ?_
      rintro _ _ ⟨S2, e2, rfl, rfl⟩
      refine G.bring [oP S2 e2 xs] (G.frz ?_)
      refine g_end (hz _ _ ⟨_, ob_fin, ?_⟩)
      clear hz Qz
      refine ob_l rfl rfl fun Qz hz => o_callx [psl encP 16 a ps] [rC r 300 a ps.length c0] (SlotRK_spec r 300 a c0 ps (by omega) id attr hxs) rfl rfl ?_
      rintro _ _ ⟨S3, e3, rfl, rfl⟩
      refine G.bring [oP S3 e3 xs] (G.frz ?_)
      refine g_end (hz _ _ ⟨_, ob_fin, ?_⟩)
      clear hz Qz
      refine ob_l rfl rfl fun Qz hz => o_callp (Prefs_spec S2 S3 xs.length e2 e3 xs rfl (by omega)) rfl rfl ?_
      rintro _ _ ⟨rfl, rfl⟩
      refine g_end (hz _ _ ⟨_, ob_fin, ?_⟩)
      clear hz Qz
      refine ob_q rfl rfl ⟨_, fun X Q h => o_move (g_end (h _ _ ⟨rfl, rfl⟩)), ?_⟩
      refine ob_l rfl rfl fun Qz hz => o_want rfl rfl rfl rfl rfl <| o_call (wakes17_spec) rfl rfl ?_
      rintro _ _ ⟨rfl, rfl⟩
      refine g_end (hz _ _ ⟨_, ob_fin, ?_⟩)
      clear hz Qz
      first | refine ob_q rfl rfl ⟨_, fun X Q h => o_pick_t rfl rfl (g_end (h _ _ ⟨rfl, rfl⟩)), ?_⟩ | refine ob_q rfl rfl ⟨_, fun X Q h => o_pick_f rfl rfl (g_end (h _ _ ⟨rfl, rfl⟩)), ?_⟩
      refine ob_q rfl rfl ⟨_, fun X Q h => o_assign (g_end (h _ _ ⟨rfl, rfl⟩)), ?_⟩
      refine ob_nil ?_
      refine G.imp (hQ_ .normal _) ?_
      clear hQ_ Q_
      try refine g_then ?_
      repeat (first | refine g_endt ?_ | refine g_end ?_ | refine g_then ?_ | refine g_in_normal ?_ | refine g_then_ret ?_ | refine g_in_ret ?_ | refine g_then_exit ?_ | refine g_in_exit rfl ?_ | refine g_in_exit_ne (by decide) ?_ | refine g_seq ?_ | refine g_region ?_ | refine g_block ?_ | refine g_ret ?_ | refine g_return_n ?_ | refine g_exit ?_ | refine g_skip ?_)
      exact ret1 (K := []) rfl (resT (v := .bool true) rfl) ⟨rfl, rfl⟩
end Go.Proofs.Ytonaccfoelgpnaa
/- From a contract to a row: arguments opened, what a law leaves behind. Plain library, no program in sight. -/
namespace Go.Sl
open Go Go.Proofs Go.RowKit Go.ChangeShapes Go.WideShapes

theorem law_calls {P : Program} {f : FuncId} {args : List Value} {K : List SProp} {R : Value → List SProp → Prop} {W : World} (sp : Ctr P f args K R) (hK : holds (star (whole W) (sl K)) W) :
    Calls P f args.toArray W fun e W' => ∃ v L', e = .returned v ∧ R v L' ∧ Below W.heap.size W W' :=
  (sp W (whole W) hK).mono fun e W' ⟨v, L', he, hr, hh, hs⟩ => ⟨v, L', he, hr, hs.os, hs.tape, hs.output, hs.size, fun k hk => by
    have l : Le (hp W) (hp W') := (sees_whole W).left W' hh
    have h1 : hp W k = some W.heap[k] := by show W.heap[k]? = _; simp [hk]
    have h2 := l k _ h1
    show hp W' k = hp W k
    rw [h1, h2]⟩
theorem holds_nil (W : World) : holds (star (whole W) (sl [])) W := (holds_whole W).ent ((Ent.emp_left (whole W)).trans (Ent.comm _ _))
theorem holds_psl {W : World} {K : List SProp} {α : Type} {enc : α → List Value} {sz : Nat} {A : Option Addr} {ys : List α} (h : holds (star (whole W) (sl K)) W) (r : rdE A enc sz ys (hp W)) : holds (star (whole W) (sl (psl enc sz A ys :: K))) W := by
  obtain ⟨B, k, d, l, m, k1, k2, d12, l1, l2, x, y⟩ := h
  exact ⟨B, k, d, l, m, k1, k2, d12, l1, l2, x, hnil, k2, (Dj.nil _).symm, .nil _, .refl _, rdE.le r x, y⟩

section
variable {H : Type} {enc : TypeId × Value → H} {P : Program}
theorem trodAll_stays (hl : laidOutB P = true) {W W' : World} {sp : Nat → Bool} : ∀ {ts : List TypeId} {vs : List Value} {ds : List (DataW H)} {ps : List MemPlace}, (∀ t ∈ ts, P.readableRec t = true ∧ t < P.types.size) →
    DataW.TrodAll enc P W 0 (fun _ => true) true ts vs ds ps → (∀ p ∈ ps, W.sameAt W' p) → (∀ p ∈ ps, sp p.block = true) → DataW.TrodAll enc P W' 0 sp true ts vs ds ps
  | [], [], [], _, _, h, _, _ => h
  | t :: ts, v :: vs, d :: ds, _, hr, ⟨p, q, h1, h2, rfl⟩, hb, hs => ⟨p, q, WideElems.Trod_stays hl (hr t List.mem_cons_self).1 (hr t List.mem_cons_self).2 h1 (fun x hx => hb x (List.mem_append_left _ hx)) (fun x hx => hs x (List.mem_append_left _ hx)),
    trodAll_stays hl (fun u hu => hr u (List.mem_cons_of_mem _ hu)) h2 (fun x hx => hb x (List.mem_append_right _ hx)) (fun x hx => hs x (List.mem_append_right _ hx)), rfl⟩
/-- A law that answers true, and behind which nothing has turned that was there. -/
theorem post_law {f : Func} {s : ChangeSpec} {apart fresh handsOn again : Bool} {W W' : World} {args : Array Value} {ds gs : List (DataW H)} {before : List MemPlace} {tb : TypeId}
    (hW : DataW.Whole enc P f.params.toList s.vars apart W args.toList ds gs before) (hl : laidOutB P = true) (hvs : s.vars = [])
    (hs : s.fn H ds = { results := [.lit (.bool true)], args := ds }) (hr : f.resultTypes = #[tb]) (ht : P.underlying tb = some .bool)
    (hrow : ∀ t ∈ f.params.toList, P.readableRec t = true ∧ t < P.types.size) (hb : Below W.heap.size W W') :
    s.post enc P f apart fresh handsOn again W args (.bool true) W' := by
  have hlt : ∀ p ∈ before, p.block < W.heap.size := fun p hp => hW.lt p hp
  have hW0 := hW
  obtain ⟨p, q, hA, hV, rfl, hz, hn⟩ := hW
  have hgq : gs = [] ∧ q = [] := by
    rw [hvs] at hV
    cases gs with
    | nil => exact ⟨rfl, hV⟩
    | cons g gs => exact hV.elim
  obtain ⟨rfl, rfl⟩ := hgq
  simp only [List.append_nil] at hlt hz hn hW0
  have hsp : s.fn H (ds ++ []) = { results := [.lit (.bool true)], args := ds } := by rw [List.append_nil]; exact hs
  have hargs : ∀ sp : Nat → Bool, (∀ x ∈ p, sp x.block = true) → DataW.TrodAll enc P W' 0 sp true f.params.toList args.toList ds p :=
    fun sp h => trodAll_stays hl hrow hA (fun x hx => hb.same (hlt x hx)) h
  have hold : ∀ x ∈ p, decide (x.block < W.heap.size) = true := fun x hx => by simpa using hlt x hx
  have hvr : ∀ (sp : Nat → Bool), DataW.TrodVars enc P W' sp s.vars [] [] := fun sp => by rw [hvs]; exact rfl
  have hres : ∀ (b : Nat) (sp : Nat → Bool) (hd : Bool), DataW.TrodAll enc P W' b sp hd f.resultTypes.toList ((Value.bool true).resultList f.resultTypes.size) [.lit (.bool true)] [] := fun b sp hd => by
    rw [hr]
    exact trodAll_mk1 (shut_bool ht true)
  refine ⟨ds, [], p, [], p, [], hW0, by rw [hsp]; exact hres _ _ _, by rw [hsp]; exact hargs _ hold, by rw [hsp]; exact hvr _, World.keptBut_mono (fun x hx => ⟨hx, .inr (.inl hx)⟩) (hb.frame (· ∈ p)), fun _ => ⟨?_, ?_⟩⟩
  · exact ok_one hr rfl (okWide_bool_mk ht true)
  · refine ⟨_, [], ([] ++ p), ⟨[] ++ p, [], trodAll_append (hargs _ (fun _ _ => rfl)) (hres _ _ _), hvr _, by simp, ?_, ?_⟩, ?_⟩
    · intro b off hp
      have hin : MemPlace.cell b off ∈ p := by simpa using hp
      rw [hb.frozen (hlt _ hin)]
      exact hz b off hin
    · intro ha
      simpa using hn ha
    · intro x hx _
      simpa using hx

/-! ### Slices among the arguments -/
theorem mapM_get {α β : Type} {f : α → Option β} : ∀ {l : List α} {r : List β}, l.mapM f = some r → ∀ (i : Nat) (x : α), l[i]? = some x → ∃ y, r[i]? = some y ∧ f x = some y
  | [], r, h, i, x, hx => by simp at hx
  | a :: l, r, h, i, x, hx => by
    rw [List.mapM_cons] at h
    cases ha : f a with
    | none => rw [ha] at h; cases h
    | some b =>
      rw [ha] at h
      cases hr : l.mapM f with
      | none => rw [hr] at h; cases h
      | some r' =>
        rw [hr] at h
        cases h
        cases i with
        | zero => simp at hx; subst hx; exact ⟨b, rfl, ha⟩
        | succ i => exact mapM_get hr i x (by simpa using hx)
theorem cells_get {w : World} {a : Addr} {n : Nat} {cs : List Value} (h : w.cells? 0 a n = some cs) {j : Nat} {u : Value} (hu : cs[j]? = some u) : w.cell? (a.add j) = some u := by
  simp only [World.cells?, Nat.zero_le, if_true] at h
  have hl : cs.length = n := by have := mapM_some_length h; simpa using this
  have hj : j < n := by rw [← hl]; exact (List.getElem?_eq_some_iff.1 hu).1
  obtain ⟨y, h1, h2⟩ := mapM_get h j j (by simp [hj])
  rw [h1] at hu
  cases hu
  exact h2
theorem cellH_of_cell {w : World} {a : Addr} {u : Value} (h : w.cell? a = some u) : a.spot = none ∧ cellH (hp w) a.block a.off = some u := by
  unfold World.cell? at h
  unfold cellH hp
  cases hb : w.heap[a.block]? with
  | none => rw [hb] at h; cases h
  | some o =>
    rw [hb] at h
    cases o with
    | cells c t fr =>
      cases hs : a.spot with
      | none => simp [hs] at h; exact ⟨rfl, h⟩
      | some s => simp [hs] at h
    | _ => cases h
/-- A slice's one cell; its elements, told by what each element's cells are; that they lie there for ever. -/
theorem open_cs {t e : TypeId} {W : World} {fuel : Nat} {cs : List Value} {x : DataW H × List MemPlace} {α : Type} {en : α → List Value} {sz : Nat} {Pr : α → Prop} [el : EncLen en sz] (ht : P.underlying t = some (.slice e)) (hc : P.cellsOf e = sz) (hsz : 0 < sz)
    (he : ∀ n cs x, DataW.trod enc P W 0 (fun _ => true) true n e cs = some x → ∃ y : α, cs = en y ∧ Pr y) (hf : DataW.trod enc P W 0 (fun _ => true) true fuel t cs = some x) :
    ∃ (A : Option Addr) (len cap : Nat) (ys : List α), cs = [.slice A len cap] ∧ ys.length = len ∧ len ≤ maxLen ∧ rdE A en sz ys (hp W) ∧ ∀ y ∈ ys, Pr y := by
  rcases Go.Deep.open_slice ht hf with ⟨h1, _⟩ | ⟨a, len, cap, m, n, D, Pl, h1, _, hl, hm, hmm, _, hel⟩
  · exact ⟨none, 0, 0, [], h1, rfl, Nat.zero_le _, fun i y hy => by simp at hy, fun y hy => by simp at hy⟩
  · simp only [if_true] at hmm
    have key : ∀ i, i < len → ∃ y : α, (∀ j u, (en y)[j]? = some u → W.cell? ((a.add (i * sz)).add j) = some u) ∧ Pr y := fun i hi => by
      obtain ⟨cs', h2, h3⟩ := hel i (by omega)
      obtain ⟨y, rfl, hy⟩ := he n cs' _ h3
      rw [hc] at h2
      exact ⟨y, fun j u hu => cells_get h2 hu, hy⟩
    refine ⟨some a, len, cap, List.ofFn (fun i : Fin len => Classical.choose (key i.1 i.2)), h1, by simp, by omega, ?_, ?_⟩
    · intro i y hy
      have hi : i < len := by have := (List.getElem?_eq_some_iff.1 hy).1; simpa using this
      have hy' : y = Classical.choose (key i hi) := by simpa [hi] using hy.symm
      have hcs := (Classical.choose_spec (key i hi)).1
      rw [← hy'] at hcs
      have hs : a.spot = none := by
        obtain ⟨y0, hy0, _⟩ := key 0 (by omega)
        have hne : 0 < (en y0).length := by rw [el.len]; exact hsz
        have h0 := (cellH_of_cell (hy0 0 _ (List.getElem?_eq_getElem hne))).1
        simpa [Addr.add] using h0
      obtain ⟨b, k, sp⟩ := a
      dsimp only at hs
      subst hs
      refine ⟨b, k, rfl, fun j u hu => ?_⟩
      have h1 := (cellH_of_cell (hcs j u hu)).2
      simpa [add_off, Nat.add_assoc] using h1
    · intro y hy
      obtain ⟨i, rfl⟩ := List.mem_ofFn.1 hy
      exact (Classical.choose_spec (key i.1 i.2)).2
/-- A slice that is read. -/
theorem open_pslP {t e : TypeId} {v : Value} {d : DataW H} {ps : List MemPlace} {W : World} {α : Type} {en : α → List Value} {sz : Nat} {Pr : α → Prop} [el : EncLen en sz] (ht : P.underlying t = some (.slice e)) (hc : P.cellsOf e = sz) (hsz : 0 < sz)
    (he : ∀ n cs x, DataW.trod enc P W 0 (fun _ => true) true n e cs = some x → ∃ y : α, cs = en y ∧ Pr y) {b0 : Nat} (hv : Value.okWide P W .any b0 t v) (h : DataW.Trod enc P W 0 (fun _ => true) true t v d ps) :
    ∃ (A : Option Addr) (len cap : Nat) (ys : List α), v = .slice A len cap ∧ ys.length = len ∧ len ≤ maxLen ∧ rdE A en sz ys (hp W) ∧ ∀ y ∈ ys, Pr y := by
  obtain ⟨fuel, hf⟩ := h
  obtain ⟨a0, len0, cap0, rfl⟩ := okWide_slice ht hv
  obtain ⟨A, len, cap, ys, h1, h2⟩ := open_cs ht hc hsz he hf
  simp only [Value.cells, List.cons.injEq, and_true] at h1
  exact ⟨A, len, cap, ys, h1, h2⟩
theorem open_psl {t e : TypeId} {v : Value} {d : DataW H} {ps : List MemPlace} {W : World} {α : Type} {en : α → List Value} {sz : Nat} [el : EncLen en sz] (ht : P.underlying t = some (.slice e)) (hc : P.cellsOf e = sz) (hsz : 0 < sz)
    (he : ∀ n cs x, DataW.trod enc P W 0 (fun _ => true) true n e cs = some x → ∃ y : α, cs = en y) {b0 : Nat} (hv : Value.okWide P W .any b0 t v) (h : DataW.Trod enc P W 0 (fun _ => true) true t v d ps) :
    ∃ (A : Option Addr) (len cap : Nat) (ys : List α), v = .slice A len cap ∧ ys.length = len ∧ len ≤ maxLen ∧ rdE A en sz ys (hp W) :=
  let ⟨A, len, cap, ys, h1, h2, h3, h4, _⟩ := open_pslP (Pr := fun _ => True) ht hc hsz (fun n cs x hx => let ⟨y, hy⟩ := he n cs x hx; ⟨y, hy, trivial⟩) hv h
  ⟨A, len, cap, ys, h1, h2, h3, h4⟩
/-- A slice's room. -/
theorem open_cap {t e : TypeId} {v : Value} {d : DataW H} {ps : List MemPlace} {W : World} (ht : P.underlying t = some (.slice e)) (h : DataW.Trod enc P W 0 (fun _ => true) true t v d ps) : ∀ A len cap, v = .slice A len cap → len ≤ cap := by
  rintro A len cap rfl
  obtain ⟨fuel, hf⟩ := h
  rcases DataW.trod_slice ht hf with ⟨h1, _⟩ | ⟨a, len', cap', _, _, n, _, h1, _, _, hl, _⟩
  · simp [Value.cells] at h1
    obtain ⟨_, rfl, rfl⟩ := h1
    exact Nat.le_refl _
  · simp [Value.cells] at h1
    obtain ⟨_, rfl, rfl⟩ := h1
    exact hl
end
end Go.Sl
/- Symbols, elements, numbers among a law's arguments. -/
namespace Go.Proofs.Ytonaccfoelgpnaa
open Go Go.Sl Go.RowKit Go.ChangeShapes Go.WideShapes Go.Deep

section
variable {H : Type} {enc : TypeId × Value → H} {W : World}
set_option maxRecDepth 100000 in
theorem cells_field {P : Program} {t ft : TypeId} {n i off sz : Nat} {cs : List Value} {x : DataW H × List MemPlace} (ht : P.underlying t = some (.struct (P.fieldsOf t))) (h : DataW.trod enc P W 0 (fun _ => true) true n t cs = some x)
    (hf : ((P.fieldsOf t)[i]?).map (fun f => (f.type, f.offset)) = some (ft, off)) (hsz : P.cellsOf ft = sz) : ∃ m y, DataW.trod enc P W 0 (fun _ => true) true m ft ((cs.drop off).take sz) = some y := by
  obtain ⟨xs, m, _, _, _, hlen, hg⟩ := DataW.trod_struct ht h
  cases hi : (P.fieldsOf t)[i]? with
  | none => rw [hi] at hf; cases hf
  | some f =>
    rw [hi] at hf
    cases hf
    subst hsz
    have hlt : i < xs.length := by rw [hlen]; exact (Array.getElem?_eq_some_iff.1 hi).1
    exact ⟨m, xs[i], (hg i f hi).trans (List.getElem?_eq_getElem hlt)⟩
set_option maxRecDepth 100000 in
theorem cells_length {P : Program} {t : TypeId} {n sz : Nat} {cs : List Value} {x : DataW H × List MemPlace} (ht : P.underlying t = some (.struct (P.fieldsOf t))) (h : DataW.trod enc P W 0 (fun _ => true) true n t cs = some x) (hsz : P.cellsOf t = sz) : cs.length = sz := by
  obtain ⟨_, _, _, _, hl, _⟩ := DataW.trod_struct ht h
  exact hl.trans hsz
set_option maxRecDepth 100000 in
theorem cells_int {n : Nat} {cs : List Value} {x : DataW H × List MemPlace} (h : DataW.trod enc Try.prog W 0 (fun _ => true) true n 3 cs = some x) : ∃ k, cs = [.int .i64 k] :=
  let ⟨k, h, _⟩ := DataW.trod_int (by kernel_rfl) h; ⟨k, h⟩
set_option maxRecDepth 100000 in
theorem cells_bool {n : Nat} {cs : List Value} {x : DataW H × List MemPlace} (h : DataW.trod enc Try.prog W 0 (fun _ => true) true n 4 cs = some x) : ∃ k, cs = [.bool k] :=
  let ⟨k, h, _⟩ := DataW.trod_bool (by kernel_rfl) h; ⟨k, h⟩
set_option maxRecDepth 100000 in
theorem cells_string {n : Nat} {cs : List Value} {x : DataW H × List MemPlace} (h : DataW.trod enc Try.prog W 0 (fun _ => true) true n 9 cs = some x) : ∃ k, cs = [.string k] :=
  let ⟨k, h, _⟩ := DataW.trod_string (by kernel_rfl) h; ⟨k, h⟩
set_option maxRecDepth 100000 in
theorem cells_sym {n : Nat} {cs : List Value} {x : DataW H × List MemPlace} (h : DataW.trod enc Try.prog W 0 (fun _ => true) true n 40 cs = some x) : ∃ s : SymD, cs = s.cells := by
  have hl := cells_length (sz := 3) (by kernel_rfl) h (by kernel_rfl)
  obtain ⟨m0, y0, f0⟩ := cells_field (i := 0) (ft := 3) (off := 0) (sz := 1) (by kernel_rfl) h (by kernel_rfl) (by kernel_rfl)
  obtain ⟨m1, y1, f1⟩ := cells_field (i := 1) (ft := 9) (off := 1) (sz := 1) (by kernel_rfl) h (by kernel_rfl) (by kernel_rfl)
  obtain ⟨m2, y2, f2⟩ := cells_field (i := 2) (ft := 3) (off := 2) (sz := 1) (by kernel_rfl) h (by kernel_rfl) (by kernel_rfl)
  obtain ⟨k0, g0⟩ := cells_int f0
  obtain ⟨k1, g1⟩ := cells_string f1
  obtain ⟨k2, g2⟩ := cells_int f2
  match cs, hl with
  | [c0, c1, c2], _ =>
    simp at g0 g1 g2
    subst g0; subst g1; subst g2
    exact ⟨⟨k0, k1, k2⟩, rfl⟩
set_option maxRecDepth 100000 in
theorem open_sym {v : Value} {d : DataW H} {ps : List MemPlace} {b0 : Nat} (hv : Value.okWide Try.prog W .any b0 40 v) (h : DataW.Trod enc Try.prog W 0 (fun _ => true) true 40 v d ps) : ∃ s : SymD, v = s.val := by
  obtain ⟨cs, rfl, _⟩ := okWide_struct (fs := Try.prog.fieldsOf 40) (by kernel_rfl) hv
  obtain ⟨n, hn⟩ := h
  obtain ⟨e, he⟩ := cells_sym hn
  exact ⟨e, by rw [show cs = e.val.cells from Array.toList_inj.1 he]; rfl⟩
end
end Go.Proofs.Ytonaccfoelgpnaa
/- Preferences among a law's arguments. -/
namespace Go.Proofs.Ytonaccfoelgpnaa
open Go Go.Sl Go.RowKit Go.ChangeShapes Go.WideShapes Go.Deep
section
variable {H : Type} {enc : TypeId × Value → H} {W : World}
set_option maxRecDepth 100000 in
theorem cells_pref {n : Nat} {cs : List Value} {x : DataW H × List MemPlace} (h : DataW.trod enc Try.prog W 0 (fun _ => true) true n 47 cs = some x) : ∃ e : PrefD, cs = e.val.cells.toList := by
  have hl := cells_length (sz := 16) (by kernel_rfl) h (by kernel_rfl)
  obtain ⟨m0, y0, f0⟩ := cells_field (i := 0) (ft := 40) (off := 0) (sz := 3) (by kernel_rfl) h (by kernel_rfl) (by kernel_rfl)
  obtain ⟨m1, y1, f1⟩ := cells_field (i := 1) (ft := 40) (off := 3) (sz := 3) (by kernel_rfl) h (by kernel_rfl) (by kernel_rfl)
  obtain ⟨m2, y2, f2⟩ := cells_field (i := 2) (ft := 40) (off := 6) (sz := 3) (by kernel_rfl) h (by kernel_rfl) (by kernel_rfl)
  obtain ⟨m3, y3, f3⟩ := cells_field (i := 3) (ft := 40) (off := 9) (sz := 3) (by kernel_rfl) h (by kernel_rfl) (by kernel_rfl)
  obtain ⟨m4, y4, f4⟩ := cells_field (i := 4) (ft := 3) (off := 12) (sz := 1) (by kernel_rfl) h (by kernel_rfl) (by kernel_rfl)
  obtain ⟨m5, y5, f5⟩ := cells_field (i := 5) (ft := 4) (off := 13) (sz := 1) (by kernel_rfl) h (by kernel_rfl) (by kernel_rfl)
  obtain ⟨m6, y6, f6⟩ := cells_field (i := 6) (ft := 3) (off := 14) (sz := 1) (by kernel_rfl) h (by kernel_rfl) (by kernel_rfl)
  obtain ⟨m7, y7, f7⟩ := cells_field (i := 7) (ft := 3) (off := 15) (sz := 1) (by kernel_rfl) h (by kernel_rfl) (by kernel_rfl)
  obtain ⟨k0, g0⟩ := cells_sym f0
  obtain ⟨k1, g1⟩ := cells_sym f1
  obtain ⟨k2, g2⟩ := cells_sym f2
  obtain ⟨k3, g3⟩ := cells_sym f3
  obtain ⟨k4, g4⟩ := cells_int f4
  obtain ⟨k5, g5⟩ := cells_bool f5
  obtain ⟨k6, g6⟩ := cells_int f6
  obtain ⟨k7, g7⟩ := cells_int f7
  match cs, hl with
  | [c0, c1, c2, c3, c4, c5, c6, c7, c8, c9, c10, c11, c12, c13, c14, c15], _ =>
    simp [SymD.cells] at g0 g1 g2 g3 g4 g5 g6 g7
    obtain ⟨rfl, rfl, rfl⟩ := g0
    obtain ⟨rfl, rfl, rfl⟩ := g1
    obtain ⟨rfl, rfl, rfl⟩ := g2
    obtain ⟨rfl, rfl, rfl⟩ := g3
    subst g4; subst g5; subst g6; subst g7
    exact ⟨⟨k0, k1, k2, k3, k4, k5, k6, k7⟩, rfl⟩
theorem cells_encP {H : Type} {enc : TypeId × Value → H} {W : World} {n : Nat} {cs : List Value} {x : DataW H × List MemPlace} (h : DataW.trod enc Try.prog W 0 (fun _ => true) true n 47 cs = some x) : ∃ e : PrefD, cs = encP e := cells_pref h
end
end Go.Proofs.Ytonaccfoelgpnaa
