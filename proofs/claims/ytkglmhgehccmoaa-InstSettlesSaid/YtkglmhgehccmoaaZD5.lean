/- Parts of a proof, in order. -/
import Derived.Test.YtkglmhgehccmoaaZD4

set_option linter.unusedSimpArgs false
set_option linter.unusedVariables false
/- Acts on instantiations, played. -/
namespace Go.Proofs.Ytkglmhgehccmoaa
open Go Go.Sl
attribute [local irreducible] Exit.then Exit.inBlock Code.wpIn roundPost bodyPostM runL Ret Meets MeetsD Begin

abbrev cAct (c : Nat) (q : ActD) : SProp := cellsB c q.val.cells 79
abbrev cIn (c : Nat) (v : InstV) : SProp := cellsB c v.val.cells 31
theorem xI_eta (next : Int) (q : ActD) : InstP.mk (xI next q).num (xI next q).level q.i.name q.i.r.zs q.i.o = xI next q := by
  unfold xI
  split <;> rfl
set_option maxHeartbeats 4000000 in
theorem play14_spec (s r : Nat) (room : Int) (k0 : Nat) (st0 : Int × List InstP) (h0 : InvI k0 st0) (hk0 : k0 ≤ 1000) (A : Option Addr) (n c : Nat) (ys : List ActD) (hl : ys.length = n) (hm : n ≤ 80) (hr : ∀ q ∈ ys, q.Ok) (hq20 : ∀ q ∈ ys, q.i.r.len ≤ 20 ∧ q.ns.len ≤ 20) {st : Int × List InstP} (hst : playI room st0 ys = st) :
    Ctr Try.prog 18 [.pointer (some ⟨s, 0, none⟩), .pointer (some ⟨r, 0, none⟩), .slice A n c] (StP s room st0.1 st0.2 :: RefI r room st0.1 st0.2 :: acK A ys) (fun v M => v = .bool true ∧ M = [StP s room st.1 st.2, RefI r room st.1 st.2]) := by
  refine spec_of Try.func18 rfl Try.ntmps18 rfl fun w0 F => ?_
  -- hide
  -- ponder/ponderlaw14.play
  have htg : ∀ q ∈ ys, q.i.r.zs.length ≤ 20 := fun q hq => by rw [(hr q hq).ll]; exact (hq20 q hq).1
  repeat (first | refine g_endt ?_ | refine g_end ?_ | refine g_then ?_ | refine g_in_normal ?_ | refine g_then_ret ?_ | refine g_in_ret ?_ | refine g_then_exit ?_ | refine g_in_exit rfl ?_ | refine g_in_exit_ne (by decide) ?_ | refine g_seq ?_ | refine g_region ?_ | refine g_block ?_ | refine g_ret ?_ | refine g_return_n ?_ | refine g_exit ?_ | refine g_skip ?_)
  refine g_hideR fun Q_ hQ_ => ?_
  refine o_assign ?_
  refine g_end (G.imp (hQ_ .normal _) ?_)
  clear hQ_ Q_
  try refine g_then ?_
  repeat (first | refine g_endt ?_ | refine g_end ?_ | refine g_then ?_ | refine g_in_normal ?_ | refine g_then_ret ?_ | refine g_in_ret ?_ | refine g_then_exit ?_ | refine g_in_exit rfl ?_ | refine g_in_exit_ne (by decide) ?_ | refine g_seq ?_ | refine g_region ?_ | refine g_block ?_ | refine g_ret ?_ | refine g_return_n ?_ | refine g_exit ?_ | refine g_skip ?_)
  refine g_hideR fun Q_ hQ_ => ?_
  refine o_assign ?_
  refine g_end (G.imp (hQ_ .normal _) ?_)
  clear hQ_ Q_
  try refine g_then ?_
  repeat (first | refine g_endt ?_ | refine g_end ?_ | refine g_then ?_ | refine g_in_normal ?_ | refine g_then_ret ?_ | refine g_in_ret ?_ | refine g_then_exit ?_ | refine g_in_exit rfl ?_ | refine g_in_exit_ne (by decide) ?_ | refine g_seq ?_ | refine g_region ?_ | refine g_block ?_ | refine g_ret ?_ | refine g_return_n ?_ | refine g_exit ?_ | refine g_skip ?_)
  refine g_loop (σ := {z : Nat × (Int × List InstP) // z.1 ≤ n ∧ playI room st0 (ys.take z.1) = z.2}) (S := fun z => [(0, .pointer (some ⟨s, 0, none⟩)), (1, .pointer (some ⟨r, 0, none⟩)), (2, .slice A n c), (7, .int .i64 (z.1.1 : Int))]) (H := fun z => StP s room z.1.2.1 z.1.2.2 :: RefI r room z.1.2.1 z.1.2.2 :: acK A ys) (μ := fun z => n - z.1.1) (s0 := ⟨(0, st0), Nat.zero_le _, rfl⟩) (Sat.mem ⟨rfl, rfl, rfl, rfl, trivial⟩) ?_
  rintro ⟨⟨i, next, ls⟩, hi, hst1⟩ ρ'
  dsimp only at hi hst1 ⊢
  have hinv : InvI (k0 + i) (next, ls) := by
    have := playI_inv (room := room) (ys.take i) h0 (fun q hq => htg q (List.mem_of_mem_take hq))
    rw [hst1, List.length_take, Nat.min_eq_left (by omega)] at this
    exact this
  obtain ⟨hlo, hhi, hlen, htag, hlow, hsrt⟩ := hinv
  dsimp only at hlo hhi hlen htag hlow hsrt
  have htag2 : ∀ x ∈ ls, x.tags.length ≤ 1000000 := fun x hx => Nat.le_trans (htag x hx) (by decide)
  by_cases hin : i < n
  · skip
    repeat (first | refine g_endt ?_ | refine g_end ?_ | refine g_then ?_ | refine g_in_normal ?_ | refine g_then_ret ?_ | refine g_in_ret ?_ | refine g_then_exit ?_ | refine g_in_exit rfl ?_ | refine g_in_exit_ne (by decide) ?_ | refine g_seq ?_ | refine g_region ?_ | refine g_block ?_ | refine g_ret ?_ | refine g_return_n ?_ | refine g_exit ?_ | refine g_skip ?_)
    refine g_hideR fun Q_ hQ_ => ?_
    refine o_move ?_
    refine o_move ?_
    refine o_len rfl rfl ?_
    refine o_lssT (t := true) rfl rfl (decide_eq_true (by omega)) ?_
    refine g_end (G.imp (hQ_ .normal _) ?_)
    clear hQ_ Q_
    try refine g_then ?_
    first | refine g_seq (g_cond_t rfl (by first | rfl | (simp; done) | (simp; omega) | (simp; assumption)) ?_) | refine g_cond_t rfl (by first | rfl | (simp; done) | (simp; omega) | (simp; assumption)) ?_
    obtain ⟨q, hq⟩ : ∃ q, ys[i]? = some q := ⟨_, List.getElem?_eq_getElem (by omega)⟩
    have hqm := List.mem_of_getElem? hq
    obtain ⟨ll, lm, rl, rm⟩ := hr q hqm
    obtain ⟨hq1, hq2⟩ := hq20 q hqm
    have hir : q.i.r ∈ ys.map ActD.ir ++ ys.map ActD.ns := List.mem_append_left _ (List.mem_map.2 ⟨q, hqm, rfl⟩)
    have hnr : q.ns ∈ ys.map ActD.ir ++ ys.map ActD.ns := List.mem_append_right _ (List.mem_map_of_mem hqm)
    have hT := playI_take (room := room) (st := st0) hq
    rw [hst1] at hT
    obtain ⟨⟨next', ls'⟩, hst2⟩ : ∃ z, stepI room (next, ls) q = z := ⟨_, rfl⟩
    rw [hst2] at hT
    have hw6 := withinI_lt q.d 6 (by decide)
    obtain ⟨w, hw⟩ : ∃ w, (q.d % ((6 : Nat) : Int)).toNat = w := ⟨_, rfl⟩
    rw [hw] at hw6
    have hdo : doI q = w := hw
    repeat (first | refine g_endt ?_ | refine g_end ?_ | refine g_then ?_ | refine g_in_normal ?_ | refine g_then_ret ?_ | refine g_in_ret ?_ | refine g_then_exit ?_ | refine g_in_exit rfl ?_ | refine g_in_exit_ne (by decide) ?_ | refine g_seq ?_ | refine g_region ?_ | refine g_block ?_ | refine g_ret ?_ | refine g_return_n ?_ | refine g_exit ?_ | refine g_skip ?_)
    repeat (first | refine g_endt ?_ | refine g_end ?_ | refine g_then ?_ | refine g_in_normal ?_ | refine g_then_ret ?_ | refine g_in_ret ?_ | refine g_then_exit ?_ | refine g_in_exit rfl ?_ | refine g_in_exit_ne (by decide) ?_ | refine g_seq ?_ | refine g_region ?_ | refine g_block ?_ | refine g_ret ?_ | refine g_return_n ?_ | refine g_exit ?_ | refine g_skip ?_)
    refine g_hideR fun Q_ hQ_ => ?_
    refine o_move ?_
    refine o_move ?_
    refine o_indexR (ys := ys) (i := i) rfl rfl rfl (by omega) hl rfl ?_
    refine o_loadE (ys := ys) rfl rfl hq ?_
    refine o_alloc fun c8 => ?_
    refine o_store (v := q.val) rfl rfl rfl rfl rfl ?_
    refine g_end (G.imp (hQ_ .normal _) ?_)
    clear hQ_ Q_
    try refine g_then ?_
    refine G.norm c8 q.val.cells rfl ?_
    repeat (first | refine g_endt ?_ | refine g_end ?_ | refine g_then ?_ | refine g_in_normal ?_ | refine g_then_ret ?_ | refine g_in_ret ?_ | refine g_then_exit ?_ | refine g_in_exit rfl ?_ | refine g_in_exit_ne (by decide) ?_ | refine g_seq ?_ | refine g_region ?_ | refine g_block ?_ | refine g_ret ?_ | refine g_return_n ?_ | refine g_exit ?_ | refine g_skip ?_)
    refine g_hideR fun Q_ hQ_ => ?_
    refine o_assign ?_
    refine g_end (G.imp (hQ_ .normal _) ?_)
    clear hQ_ Q_
    try refine g_then ?_
    refine g_cut (σ := Unit) (ds' := []) (S := fun _ => [(0, .pointer (some ⟨s, 0, none⟩)), (1, .pointer (some ⟨r, 0, none⟩)), (2, .slice A n c), (7, .int .i64 (i : Int)), (9, .bool true)]) (H := fun _ => StP s room next' ls' :: RefI r room next' ls' :: acK A ys) (ok := fun _ => True) ?_ ?_
    · skip
      repeat (first | refine g_endt ?_ | refine g_end ?_ | refine g_then ?_ | refine g_in_normal ?_ | refine g_then_ret ?_ | refine g_in_ret ?_ | refine g_then_exit ?_ | refine g_in_exit rfl ?_ | refine g_in_exit_ne (by decide) ?_ | refine g_seq ?_ | refine g_region ?_ | refine g_block ?_ | refine g_ret ?_ | refine g_return_n ?_ | refine g_exit ?_ | refine g_skip ?_)
      refine g_hideR fun Q_ hQ_ => ?_
      first | refine o_field rfl ?_ | refine o_fieldR rfl (by omega) ?_
      refine o_load1 (v := .int .i64 q.d) rfl rfl ?_
      refine o_call (WithinI_spec q.d 6 (by decide) (by decide) hw) rfl rfl ?_
      rintro _ _ ⟨rfl, rfl⟩
      refine g_end (G.imp (hQ_ .normal _) ?_)
      clear hQ_ Q_
      try refine g_then ?_
      refine g_block ?_
      refine g_cut (σ := Unit) (ds' := []) (S := fun _ => [(0, .pointer (some ⟨s, 0, none⟩)), (1, .pointer (some ⟨r, 0, none⟩)), (2, .slice A n c), (7, .int .i64 (i : Int)), (8, .pointer (some ⟨c8, 0, none⟩)), (31, .int .i64 (w : Int)), (88, .bool (decide (w < 3)))]) (H := fun _ => cAct c8 q :: StP s room next ls :: RefI r room next ls :: acK A ys) (ok := fun _ => True) ?_ ?_
      · skip
        repeat (first | refine g_endt ?_ | refine g_end ?_ | refine g_then ?_ | refine g_in_normal ?_ | refine g_then_ret ?_ | refine g_in_ret ?_ | refine g_then_exit ?_ | refine g_in_exit rfl ?_ | refine g_in_exit_ne (by decide) ?_ | refine g_seq ?_ | refine g_block ?_ | refine g_ret ?_ | refine g_return_n ?_ | refine g_exit ?_ | refine g_skip ?_)
        by_cases e0 : w = 0
        · skip
          repeat (first | refine g_endt ?_ | refine g_end ?_ | refine g_then ?_ | refine g_in_normal ?_ | refine g_then_ret ?_ | refine g_in_ret ?_ | refine g_then_exit ?_ | refine g_in_exit rfl ?_ | refine g_in_exit_ne (by decide) ?_ | refine g_seq ?_ | refine g_region ?_ | refine g_block ?_ | refine g_ret ?_ | refine g_return_n ?_ | refine g_exit ?_ | refine g_skip ?_)
          refine g_hideR fun Q_ hQ_ => ?_
          refine o_eqlT (t := true) rfl rfl (by rw [e0]; rfl) ?_
          refine o_assign ?_
          refine g_end (G.imp (hQ_ .normal _) ?_)
          clear hQ_ Q_
          try refine g_then ?_
          first | refine g_seq (g_cond_t rfl (by first | rfl | (simp; done) | (simp; omega) | (simp; assumption)) ?_) | refine g_cond_t rfl (by first | rfl | (simp; done) | (simp; omega) | (simp; assumption)) ?_
          repeat (first | refine g_endt ?_ | refine g_end ?_ | refine g_then ?_ | refine g_in_normal ?_ | refine g_then_ret ?_ | refine g_in_ret ?_ | refine g_then_exit ?_ | refine g_in_exit rfl ?_ | refine g_in_exit_ne (by decide) ?_ | refine g_seq ?_ | refine g_region ?_ | refine g_block ?_ | refine g_ret ?_ | refine g_return_n ?_ | refine g_exit ?_ | refine g_skip ?_)
          exact g_meets () trivial (Sat.mem ⟨rfl, rfl, rfl, rfl, rfl, rfl, by rw [decide_eq_true (by omega)]; rfl, trivial⟩)
        repeat (first | refine g_endt ?_ | refine g_end ?_ | refine g_then ?_ | refine g_in_normal ?_ | refine g_then_ret ?_ | refine g_in_ret ?_ | refine g_then_exit ?_ | refine g_in_exit rfl ?_ | refine g_in_exit_ne (by decide) ?_ | refine g_seq ?_ | refine g_region ?_ | refine g_block ?_ | refine g_ret ?_ | refine g_return_n ?_ | refine g_exit ?_ | refine g_skip ?_)
        refine g_hideR fun Q_ hQ_ => ?_
        refine o_eqlT (t := false) rfl rfl (by simp; omega) ?_
        refine o_assign ?_
        refine g_end (G.imp (hQ_ .normal _) ?_)
        clear hQ_ Q_
        try refine g_then ?_
        first | refine g_seq (g_cond_f rfl (by first | rfl | (simp; done) | (simp; omega) | (simp; assumption)) ?_) | refine g_cond_f rfl (by first | rfl | (simp; done) | (simp; omega) | (simp; assumption)) ?_
        by_cases e1 : w = 1
        · skip
          repeat (first | refine g_endt ?_ | refine g_end ?_ | refine g_then ?_ | refine g_in_normal ?_ | refine g_then_ret ?_ | refine g_in_ret ?_ | refine g_then_exit ?_ | refine g_in_exit rfl ?_ | refine g_in_exit_ne (by decide) ?_ | refine g_seq ?_ | refine g_region ?_ | refine g_block ?_ | refine g_ret ?_ | refine g_return_n ?_ | refine g_exit ?_ | refine g_skip ?_)
          refine g_hideR fun Q_ hQ_ => ?_
          refine o_eqlT (t := true) rfl rfl (by rw [e1]; rfl) ?_
          refine o_assign ?_
          refine g_end (G.imp (hQ_ .normal _) ?_)
          clear hQ_ Q_
          try refine g_then ?_
          first | refine g_seq (g_cond_t rfl (by first | rfl | (simp; done) | (simp; omega) | (simp; assumption)) ?_) | refine g_cond_t rfl (by first | rfl | (simp; done) | (simp; omega) | (simp; assumption)) ?_
          repeat (first | refine g_endt ?_ | refine g_end ?_ | refine g_then ?_ | refine g_in_normal ?_ | refine g_then_ret ?_ | refine g_in_ret ?_ | refine g_then_exit ?_ | refine g_in_exit rfl ?_ | refine g_in_exit_ne (by decide) ?_ | refine g_seq ?_ | refine g_region ?_ | refine g_block ?_ | refine g_ret ?_ | refine g_return_n ?_ | refine g_exit ?_ | refine g_skip ?_)
          exact g_meets () trivial (Sat.mem ⟨rfl, rfl, rfl, rfl, rfl, rfl, by rw [decide_eq_true (by omega)]; rfl, trivial⟩)
        repeat (first | refine g_endt ?_ | refine g_end ?_ | refine g_then ?_ | refine g_in_normal ?_ | refine g_then_ret ?_ | refine g_in_ret ?_ | refine g_then_exit ?_ | refine g_in_exit rfl ?_ | refine g_in_exit_ne (by decide) ?_ | refine g_seq ?_ | refine g_region ?_ | refine g_block ?_ | refine g_ret ?_ | refine g_return_n ?_ | refine g_exit ?_ | refine g_skip ?_)
        refine g_hideR fun Q_ hQ_ => ?_
        refine o_eqlT (t := false) rfl rfl (by simp; omega) ?_
        refine o_assign ?_
        refine g_end (G.imp (hQ_ .normal _) ?_)
        clear hQ_ Q_
        try refine g_then ?_
        first | refine g_seq (g_cond_f rfl (by first | rfl | (simp; done) | (simp; omega) | (simp; assumption)) ?_) | refine g_cond_f rfl (by first | rfl | (simp; done) | (simp; omega) | (simp; assumption)) ?_
        repeat (first | refine g_endt ?_ | refine g_end ?_ | refine g_then ?_ | refine g_in_normal ?_ | refine g_then_ret ?_ | refine g_in_ret ?_ | refine g_then_exit ?_ | refine g_in_exit rfl ?_ | refine g_in_exit_ne (by decide) ?_ | refine g_seq ?_ | refine g_region ?_ | refine g_block ?_ | refine g_ret ?_ | refine g_return_n ?_ | refine g_exit ?_ | refine g_skip ?_)
        refine g_hideR fun Q_ hQ_ => ?_
        refine o_eqlT (t := decide (w < 3)) rfl rfl (by rw [Bool.eq_iff_iff, beq_iff_eq, decide_eq_true_iff]; omega) ?_
        refine o_assign ?_
        refine g_end (G.imp (hQ_ .normal _) ?_)
        clear hQ_ Q_
        try refine g_then ?_
        repeat (first | refine g_endt ?_ | refine g_end ?_ | refine g_then ?_ | refine g_in_normal ?_ | refine g_then_ret ?_ | refine g_in_ret ?_ | refine g_then_exit ?_ | refine g_in_exit rfl ?_ | refine g_in_exit_ne (by decide) ?_ | refine g_seq ?_ | refine g_region ?_ | refine g_block ?_ | refine g_ret ?_ | refine g_return_n ?_ | refine g_exit ?_ | refine g_skip ?_)
        exact g_meets () trivial (Sat.mem ⟨rfl, rfl, rfl, rfl, rfl, rfl, rfl, trivial⟩)
      · rintro _ ρ2 _
        by_cases hw3 : w < 3
        · first | refine g_seq (g_cond_t rfl (by simpa using hw3) ?_) | refine g_cond_t rfl (by simpa using hw3) ?_
          have hst3 : stepI room (next, ls) q = (putI room next ls (xI next q)).2 := by unfold stepI; rw [if_neg (by omega), if_neg (by omega), if_neg (by omega)]
          obtain ⟨v0, hput⟩ : ∃ v0, putI room next ls (xI next q) = (v0, next', ls') := ⟨(putI room next ls (xI next q)).1, by rw [hst3] at hst2; rw [← hst2]⟩
          have heta := xI_eta next q
          obtain ⟨x, hx⟩ : ∃ x, xI next q = x := ⟨_, rfl⟩
          rw [hx] at hput heta
          have hw8 := withinI_lt q.i.level 8 (by decide)
          obtain ⟨w8, hw8e⟩ : ∃ w8, (q.i.level % ((8 : Nat) : Int)).toNat = w8 := ⟨_, rfl⟩
          rw [hw8e] at hw8
          refine G.rowG (enc := encI) (sz := 1) hir ?_
          repeat (first | refine g_endt ?_ | refine g_end ?_ | refine g_then ?_ | refine g_in_normal ?_ | refine g_then_ret ?_ | refine g_in_ret ?_ | refine g_then_exit ?_ | refine g_in_exit rfl ?_ | refine g_in_exit_ne (by decide) ?_ | refine g_seq ?_ | refine g_region ?_ | refine g_block ?_ | refine g_ret ?_ | refine g_return_n ?_ | refine g_exit ?_ | refine g_skip ?_)
          refine g_hideR fun Q_ hQ_ => ?_
          first | refine o_field rfl ?_ | refine o_fieldR rfl (by omega) ?_
          refine o_loadN (v := q.i.val) rfl rfl rfl ?_
          refine o_alloc fun c10 => ?_
          refine o_store (v := q.i.val) rfl rfl rfl rfl rfl ?_
          refine g_end (G.imp (hQ_ .normal _) ?_)
          clear hQ_ Q_
          try refine g_then ?_
          refine G.norm c10 q.i.val.cells rfl ?_
          refine g_cut (σ := Unit) (ds' := []) (S := fun _ => [(0, .pointer (some ⟨s, 0, none⟩)), (1, .pointer (some ⟨r, 0, none⟩)), (2, .slice A n c), (7, .int .i64 (i : Int)), (8, .pointer (some ⟨c8, 0, none⟩)), (10, .pointer (some ⟨c10, 0, none⟩))]) (H := fun _ => cIn c10 (InstV.mk x.num x.level q.i.name q.i.r.a q.i.r.len q.i.r.cap q.i.o) :: psl encI 1 q.i.r.a q.i.r.zs :: cAct c8 q :: StP s room next ls :: RefI r room next ls :: acK A ys) (ok := fun _ => True) ?_ ?_
          · cases hraw : q.raw with
            | true =>
              have hx1 : q.i.pl = x := by rw [← hx]; unfold xI; rw [hraw]; rfl
              have hn1 : q.i.num = x.num := congrArg InstP.num hx1
              have hn2 : q.i.level = x.level := congrArg InstP.level hx1
              rw [← hn1, ← hn2]
              refine G.norm c10 (InstV.mk q.i.num q.i.level q.i.name q.i.r.a q.i.r.len q.i.r.cap q.i.o).val.cells rfl ?_
              repeat (first | refine g_endt ?_ | refine g_end ?_ | refine g_then ?_ | refine g_in_normal ?_ | refine g_then_ret ?_ | refine g_in_ret ?_ | refine g_then_exit ?_ | refine g_in_exit rfl ?_ | refine g_in_exit_ne (by decide) ?_ | refine g_seq ?_ | refine g_region ?_ | refine g_block ?_ | refine g_ret ?_ | refine g_return_n ?_ | refine g_exit ?_ | refine g_skip ?_)
              refine g_hideR fun Q_ hQ_ => ?_
              first | refine o_field rfl ?_ | refine o_fieldR rfl (by omega) ?_
              refine o_load1 (v := .bool true) rfl (by rw [← hraw]; rfl) ?_
              refine o_not rfl ?_
              refine g_end (G.imp (hQ_ .normal _) ?_)
              clear hQ_ Q_
              try refine g_then ?_
              first | refine g_seq (g_cond_f rfl (by first | rfl | (simp; done) | (simp; omega) | (simp; assumption)) ?_) | refine g_cond_f rfl (by first | rfl | (simp; done) | (simp; omega) | (simp; assumption)) ?_
              repeat (first | refine g_endt ?_ | refine g_end ?_ | refine g_then ?_ | refine g_in_normal ?_ | refine g_then_ret ?_ | refine g_in_ret ?_ | refine g_then_exit ?_ | refine g_in_exit rfl ?_ | refine g_in_exit_ne (by decide) ?_ | refine g_seq ?_ | refine g_region ?_ | refine g_block ?_ | refine g_ret ?_ | refine g_return_n ?_ | refine g_exit ?_ | refine g_skip ?_)
              exact g_meets () trivial (Sat.mem ⟨rfl, rfl, rfl, rfl, rfl, rfl, trivial⟩)
            | false =>
              have hx1 : InstP.mk next (1 + (w8 : Int)) q.i.name q.i.r.zs q.i.o = x := by rw [← hx]; unfold xI; rw [hraw, hw8e]; rfl
              have hn1 : next = x.num := congrArg InstP.num hx1
              have hn2 : 1 + (w8 : Int) = x.level := congrArg InstP.level hx1
              rw [← hn1, ← hn2]
              refine openRI r room next ls fun a c0 => ?_
              repeat (first | refine g_endt ?_ | refine g_end ?_ | refine g_then ?_ | refine g_in_normal ?_ | refine g_then_ret ?_ | refine g_in_ret ?_ | refine g_then_exit ?_ | refine g_in_exit rfl ?_ | refine g_in_exit_ne (by decide) ?_ | refine g_seq ?_ | refine g_region ?_ | refine g_block ?_ | refine g_ret ?_ | refine g_return_n ?_ | refine g_exit ?_ | refine g_skip ?_)
              refine g_hideR fun Q_ hQ_ => ?_
              first | refine o_field rfl ?_ | refine o_fieldR rfl (by omega) ?_
              refine o_load1 (v := .bool false) rfl (by rw [← hraw]; rfl) ?_
              refine o_not rfl ?_
              refine g_end (G.imp (hQ_ .normal _) ?_)
              clear hQ_ Q_
              try refine g_then ?_
              first | refine g_seq (g_cond_t rfl (by first | rfl | (simp; done) | (simp; omega) | (simp; assumption)) ?_) | refine g_cond_t rfl (by first | rfl | (simp; done) | (simp; omega) | (simp; assumption)) ?_
              repeat (first | refine g_endt ?_ | refine g_end ?_ | refine g_then ?_ | refine g_in_normal ?_ | refine g_then_ret ?_ | refine g_in_ret ?_ | refine g_then_exit ?_ | refine g_in_exit rfl ?_ | refine g_in_exit_ne (by decide) ?_ | refine g_seq ?_ | refine g_region ?_ | refine g_block ?_ | refine g_ret ?_ | refine g_return_n ?_ | refine g_exit ?_ | refine g_skip ?_)
              refine g_hideR fun Q_ hQ_ => ?_
              refine o_move ?_
              refine o_nil rfl ?_
              first | refine o_field rfl ?_ | refine o_fieldR rfl (by omega) ?_
              refine o_load1 (v := .int .i64 next) rfl rfl ?_
              first | refine o_field rfl ?_ | refine o_fieldR rfl (by omega) ?_
              refine o_store (v := .int .i64 next) rfl rfl rfl rfl rfl ?_
              refine g_end (G.imp (hQ_ .normal _) ?_)
              clear hQ_ Q_
              try refine g_then ?_
              refine G.norm c10 (InstV.mk next q.i.level q.i.name q.i.r.a q.i.r.len q.i.r.cap q.i.o).val.cells rfl ?_
              refine shutRI r room next ls a c0 rfl ?_
              repeat (first | refine g_endt ?_ | refine g_end ?_ | refine g_then ?_ | refine g_in_normal ?_ | refine g_then_ret ?_ | refine g_in_ret ?_ | refine g_then_exit ?_ | refine g_in_exit rfl ?_ | refine g_in_exit_ne (by decide) ?_ | refine g_seq ?_ | refine g_region ?_ | refine g_block ?_ | refine g_ret ?_ | refine g_return_n ?_ | refine g_exit ?_ | refine g_skip ?_)
              refine g_hideR fun Q_ hQ_ => ?_
              first | refine o_field rfl ?_ | refine o_fieldR rfl (by omega) ?_
              refine o_load1 (v := .int .i64 q.i.level) rfl rfl ?_
              refine o_call (WithinI_spec q.i.level 8 (by decide) (by decide) hw8e) rfl rfl ?_
              rintro _ _ ⟨rfl, rfl⟩
              refine o_add (c := 1 + (w8 : Int)) rfl rfl rfl (by omega) (by omega) ?_
              first | refine o_field rfl ?_ | refine o_fieldR rfl (by omega) ?_
              refine o_store (v := .int .i64 (1 + (w8 : Int))) rfl rfl rfl rfl rfl ?_
              refine g_end (G.imp (hQ_ .normal _) ?_)
              clear hQ_ Q_
              try refine g_then ?_
              refine G.norm c10 (InstV.mk next (1 + (w8 : Int)) q.i.name q.i.r.a q.i.r.len q.i.r.cap q.i.o).val.cells rfl ?_
              repeat (first | refine g_endt ?_ | refine g_end ?_ | refine g_then ?_ | refine g_in_normal ?_ | refine g_then_ret ?_ | refine g_in_ret ?_ | refine g_then_exit ?_ | refine g_in_exit rfl ?_ | refine g_in_exit_ne (by decide) ?_ | refine g_seq ?_ | refine g_region ?_ | refine g_block ?_ | refine g_ret ?_ | refine g_return_n ?_ | refine g_exit ?_ | refine g_skip ?_)
              exact g_meets () trivial (Sat.mem ⟨rfl, rfl, rfl, rfl, rfl, rfl, trivial⟩)
          · rintro _ ρ3 _
            refine G.dup (psl encI 1 q.i.r.a q.i.r.zs) ?_
            repeat (first | refine g_endt ?_ | refine g_end ?_ | refine g_then ?_ | refine g_in_normal ?_ | refine g_then_ret ?_ | refine g_in_ret ?_ | refine g_then_exit ?_ | refine g_in_exit rfl ?_ | refine g_in_exit_ne (by decide) ?_ | refine g_seq ?_ | refine g_region ?_ | refine g_block ?_ | refine g_ret ?_ | refine g_return_n ?_ | refine g_exit ?_ | refine g_skip ?_)
            refine g_hideR fun Q_ hQ_ => ?_
            first | refine o_field rfl ?_ | refine o_fieldR rfl (by omega) ?_
            first | refine o_field rfl ?_ | refine o_fieldR rfl (by omega) ?_
            refine o_load1 (v := .slice q.i.r.a q.i.r.len q.i.r.cap) rfl rfl ?_
            refine o_call (CopyI_spec q.i.r.a q.i.r.len q.i.r.cap q.i.r.zs ll (by omega)) rfl rfl ?_
            rintro _ _ ⟨S1, e1, rfl, rfl⟩
            first | refine o_field rfl ?_ | refine o_fieldR rfl (by omega) ?_
            refine o_store (v := .slice S1 q.i.r.len e1) rfl rfl rfl rfl rfl ?_
            refine g_end (G.imp (hQ_ .normal _) ?_)
            clear hQ_ Q_
            try refine g_then ?_
            refine G.norm c10 (InstV.mk x.num x.level q.i.name S1 q.i.r.len e1 q.i.o).val.cells rfl ?_
            repeat (first | refine g_endt ?_ | refine g_end ?_ | refine g_then ?_ | refine g_in_normal ?_ | refine g_then_ret ?_ | refine g_in_ret ?_ | refine g_then_exit ?_ | refine g_in_exit rfl ?_ | refine g_in_exit_ne (by decide) ?_ | refine g_seq ?_ | refine g_region ?_ | refine g_block ?_ | refine g_ret ?_ | refine g_return_n ?_ | refine g_exit ?_ | refine g_skip ?_)
            refine g_hideR fun Q_ hQ_ => ?_
            refine o_loadN (v := (InstV.mk x.num x.level q.i.name S1 q.i.r.len e1 q.i.o).val) rfl rfl rfl ?_
            refine o_alloc fun c11 => ?_
            refine o_store (v := (InstV.mk x.num x.level q.i.name S1 q.i.r.len e1 q.i.o).val) rfl rfl rfl rfl rfl ?_
            refine g_end (G.imp (hQ_ .normal _) ?_)
            clear hQ_ Q_
            try refine g_then ?_
            refine G.norm c11 (InstV.mk x.num x.level q.i.name S1 q.i.r.len e1 q.i.o).val.cells rfl ?_
            repeat (first | refine g_endt ?_ | refine g_end ?_ | refine g_then ?_ | refine g_in_normal ?_ | refine g_then_ret ?_ | refine g_in_ret ?_ | refine g_then_exit ?_ | refine g_in_exit rfl ?_ | refine g_in_exit_ne (by decide) ?_ | refine g_seq ?_ | refine g_region ?_ | refine g_block ?_ | refine g_ret ?_ | refine g_return_n ?_ | refine g_exit ?_ | refine g_skip ?_)
            refine g_hideR fun Q_ hQ_ => ?_
            first | refine o_field rfl ?_ | refine o_fieldR rfl (by omega) ?_
            first | refine o_field rfl ?_ | refine o_fieldR rfl (by omega) ?_
            refine o_load1 (v := .slice q.i.r.a q.i.r.len q.i.r.cap) rfl rfl ?_
            refine o_call (CopyI_spec q.i.r.a q.i.r.len q.i.r.cap q.i.r.zs ll (by omega)) rfl rfl ?_
            rintro _ _ ⟨S2, e2, rfl, rfl⟩
            first | refine o_field rfl ?_ | refine o_fieldR rfl (by omega) ?_
            refine o_store (v := .slice S2 q.i.r.len e2) rfl rfl rfl rfl rfl ?_
            refine g_end (G.imp (hQ_ .normal _) ?_)
            clear hQ_ Q_
            try refine g_then ?_
            refine G.norm c11 (InstV.mk x.num x.level q.i.name S2 q.i.r.len e2 q.i.o).val.cells rfl ?_
            refine G.bring [oI S2 e2 q.i.r.zs] (G.frz ?_)
            rw [← heta] at hput
            repeat (first | refine g_endt ?_ | refine g_end ?_ | refine g_then ?_ | refine g_in_normal ?_ | refine g_then_ret ?_ | refine g_in_ret ?_ | refine g_then_exit ?_ | refine g_in_exit rfl ?_ | refine g_in_exit_ne (by decide) ?_ | refine g_seq ?_ | refine g_region ?_ | refine g_block ?_ | refine g_ret ?_ | refine g_return_n ?_ | refine g_exit ?_ | refine g_skip ?_)
            refine g_hide fun Q_ hQ_ => ?_
            refine g_draw [2,5] [0,1,3,4,2,5,6,7] [cIn c10 (InstV.mk x.num x.level q.i.name S1 q.i.r.len e1 q.i.o), cIn c11 (InstV.mk x.num x.level q.i.name S2 q.i.r.len e2 q.i.o)] mixed rfl ?_
            refine ob_q rfl rfl ⟨_, fun X Q h => o_move (g_end (h _ _ ⟨rfl, rfl⟩)), ?_⟩
            refine ob_q rfl rfl ⟨_, fun X Q h => o_loadN (v := (InstV.mk x.num x.level q.i.name S1 q.i.r.len e1 q.i.o).val) rfl rfl rfl (g_end (h _ _ ⟨rfl, rfl⟩)), ?_⟩
            refine ob_q rfl rfl ⟨_, fun X Q h => o_move (g_end (h _ _ ⟨rfl, rfl⟩)), ?_⟩
            refine ob_q rfl rfl ⟨_, fun X Q h => o_loadN (v := (InstV.mk x.num x.level q.i.name S2 q.i.r.len e2 q.i.o).val) rfl rfl rfl (g_end (h _ _ ⟨rfl, rfl⟩)), ?_⟩
            refine ob_l rfl rfl fun Qz hz => o_call (Put14O_spec e1 s room next ls (InstV.mk x.num x.level q.i.name S1 q.i.r.len e1 q.i.o) q.i.r.zs ll (by show q.i.r.len ≤ _; omega) (by omega) hput) rfl rfl ?_
            rintro _ _ ⟨rfl, rfl⟩
            refine g_end (hz _ _ ⟨_, ob_fin, ?_⟩)
            clear hz Qz
            refine ob_l rfl rfl fun Qz hz => o_call (PutR14_spec r room next ls (by omega) (InstV.mk x.num x.level q.i.name S2 q.i.r.len e2 q.i.o) q.i.r.zs ll (by show q.i.r.len ≤ _; omega) ⟨by omega, by omega⟩ hput) rfl rfl ?_
            rintro _ _ ⟨rfl, rfl⟩
            refine g_end (hz _ _ ⟨_, ob_fin, ?_⟩)
            clear hz Qz
            refine ob_q rfl rfl ⟨_, fun X Q h => o_eqlT (t := true) rfl rfl (by simp) (g_end (h _ _ ⟨rfl, rfl⟩)), ?_⟩
            refine ob_q rfl rfl ⟨_, fun X Q h => o_assign (g_end (h _ _ ⟨rfl, rfl⟩)), ?_⟩
            refine ob_nil ?_
            refine G.imp (hQ_ .normal _) ?_
            clear hQ_ Q_
            try refine g_then ?_
            repeat (first | refine g_endt ?_ | refine g_end ?_ | refine g_then ?_ | refine g_in_normal ?_ | refine g_then_ret ?_ | refine g_in_ret ?_ | refine g_then_exit ?_ | refine g_in_exit rfl ?_ | refine g_in_exit_ne (by decide) ?_ | refine g_seq ?_ | refine g_region ?_ | refine g_block ?_ | refine g_ret ?_ | refine g_return_n ?_ | refine g_exit ?_ | refine g_skip ?_)
            refine g_hideR fun Q_ hQ_ => ?_
            refine o_assign ?_
            refine g_end (G.imp (hQ_ .normal _) ?_)
            clear hQ_ Q_
            try refine g_then ?_
            repeat (first | refine g_endt ?_ | refine g_end ?_ | refine g_then ?_ | refine g_in_normal ?_ | refine g_then_ret ?_ | refine g_in_ret ?_ | refine g_then_exit ?_ | refine g_in_exit rfl ?_ | refine g_in_exit_ne (by decide) ?_ | refine g_seq ?_ | refine g_region ?_ | refine g_block ?_ | refine g_ret ?_ | refine g_return_n ?_ | refine g_exit ?_ | refine g_skip ?_)
            refine g_loop (σ := {t : Nat × List Int // t.1 ≤ q.i.r.len ∧ t.2.length = q.i.r.len}) (S := fun t => [(0, .pointer (some ⟨s, 0, none⟩)), (1, .pointer (some ⟨r, 0, none⟩)), (2, .slice A n c), (7, .int .i64 (i : Int)), (9, .bool true), (10, .pointer (some ⟨c10, 0, none⟩)), (12, .int .i64 (t.1.1 : Int))])
              (H := fun t => oI S1 e1 t.1.2 :: cIn c10 (InstV.mk x.num x.level q.i.name S1 q.i.r.len e1 q.i.o) :: StP s room next' ls' :: RefI r room next' ls' :: acK A ys) (μ := fun t => q.i.r.len - t.1.1) (s0 := ⟨(0, q.i.r.zs), Nat.zero_le _, ll⟩) (Sat.mem ⟨rfl, rfl, rfl, rfl, rfl, rfl, rfl, trivial⟩) ?_
            rintro ⟨⟨k, zs⟩, hk, hzl⟩ ρ4
            dsimp only at hk hzl ⊢
            by_cases hkn : k < q.i.r.len
            · skip
              repeat (first | refine g_endt ?_ | refine g_end ?_ | refine g_then ?_ | refine g_in_normal ?_ | refine g_then_ret ?_ | refine g_in_ret ?_ | refine g_then_exit ?_ | refine g_in_exit rfl ?_ | refine g_in_exit_ne (by decide) ?_ | refine g_seq ?_ | refine g_region ?_ | refine g_block ?_ | refine g_ret ?_ | refine g_return_n ?_ | refine g_exit ?_ | refine g_skip ?_)
              refine g_hideR fun Q_ hQ_ => ?_
              refine o_move ?_
              first | refine o_field rfl ?_ | refine o_fieldR rfl (by omega) ?_
              refine o_load1 (v := .slice S1 q.i.r.len e1) rfl rfl ?_
              refine o_len rfl rfl ?_
              refine o_lssT (t := true) rfl rfl (decide_eq_true (by omega)) ?_
              refine g_end (G.imp (hQ_ .normal _) ?_)
              clear hQ_ Q_
              try refine g_then ?_
              first | refine g_seq (g_cond_t rfl (by first | rfl | (simp; done) | (simp; omega) | (simp; assumption)) ?_) | refine g_cond_t rfl (by first | rfl | (simp; done) | (simp; omega) | (simp; assumption)) ?_
              repeat (first | refine g_endt ?_ | refine g_end ?_ | refine g_then ?_ | refine g_in_normal ?_ | refine g_then_ret ?_ | refine g_in_ret ?_ | refine g_then_exit ?_ | refine g_in_exit rfl ?_ | refine g_in_exit_ne (by decide) ?_ | refine g_seq ?_ | refine g_region ?_ | refine g_block ?_ | refine g_ret ?_ | refine g_return_n ?_ | refine g_exit ?_ | refine g_skip ?_)
              repeat (first | refine g_endt ?_ | refine g_end ?_ | refine g_then ?_ | refine g_in_normal ?_ | refine g_then_ret ?_ | refine g_in_ret ?_ | refine g_then_exit ?_ | refine g_in_exit rfl ?_ | refine g_in_exit_ne (by decide) ?_ | refine g_seq ?_ | refine g_region ?_ | refine g_block ?_ | refine g_ret ?_ | refine g_return_n ?_ | refine g_exit ?_ | refine g_skip ?_)
              refine g_hideR fun Q_ hQ_ => ?_
              first | refine o_field rfl ?_ | refine o_fieldR rfl (by omega) ?_
              refine o_load1 (v := .slice S1 q.i.r.len e1) rfl rfl ?_
              refine o_move ?_
              refine o_indexR (ys := zs) (i := k) rfl rfl rfl (by omega) hzl rfl ?_
              refine o_storeE (e := 3) (c := e1) (v := .int .i64 (-7)) (z := (-7 : Int)) (i := k) (enc := encI) (xs := zs) rfl rfl rfl rfl (by omega) ?_
              refine g_end (G.imp (hQ_ .normal _) ?_)
              clear hQ_ Q_
              try refine g_then ?_
              repeat (first | refine g_endt ?_ | refine g_end ?_ | refine g_then ?_ | refine g_in_normal ?_ | refine g_then_ret ?_ | refine g_in_ret ?_ | refine g_then_exit ?_ | refine g_in_exit rfl ?_ | refine g_in_exit_ne (by decide) ?_ | refine g_seq ?_ | refine g_region ?_ | refine g_block ?_ | refine g_ret ?_ | refine g_return_n ?_ | refine g_exit ?_ | refine g_skip ?_)
              repeat (first | refine g_endt ?_ | refine g_end ?_ | refine g_then ?_ | refine g_in_normal ?_ | refine g_then_ret ?_ | refine g_in_ret ?_ | refine g_then_exit ?_ | refine g_in_exit rfl ?_ | refine g_in_exit_ne (by decide) ?_ | refine g_seq ?_ | refine g_region ?_ | refine g_block ?_ | refine g_ret ?_ | refine g_return_n ?_ | refine g_exit ?_ | refine g_skip ?_)
              refine g_hideR fun Q_ hQ_ => ?_
              refine o_move ?_
              refine o_add (c := ((k + 1 : Nat) : Int)) rfl rfl (by omega) (by omega) (by omega) ?_
              refine o_assign ?_
              refine g_end (G.imp (hQ_ .normal _) ?_)
              clear hQ_ Q_
              try refine g_then ?_
              repeat (first | refine g_endt ?_ | refine g_end ?_ | refine g_then ?_ | refine g_in_normal ?_ | refine g_then_ret ?_ | refine g_in_ret ?_ | refine g_then_exit ?_ | refine g_in_exit rfl ?_ | refine g_in_exit_ne (by decide) ?_ | refine g_seq ?_ | refine g_region ?_ | refine g_block ?_ | refine g_ret ?_ | refine g_return_n ?_ | refine g_exit ?_ | refine g_skip ?_)
              exact g_meets ⟨(k + 1, zs.set k (-7)), hkn, by rw [List.length_set]; exact hzl⟩ (by show q.i.r.len - (k + 1) < q.i.r.len - k; omega) (Sat.mem ⟨rfl, rfl, rfl, rfl, rfl, rfl, rfl, trivial⟩)
            · skip
              repeat (first | refine g_endt ?_ | refine g_end ?_ | refine g_then ?_ | refine g_in_normal ?_ | refine g_then_ret ?_ | refine g_in_ret ?_ | refine g_then_exit ?_ | refine g_in_exit rfl ?_ | refine g_in_exit_ne (by decide) ?_ | refine g_seq ?_ | refine g_region ?_ | refine g_block ?_ | refine g_ret ?_ | refine g_return_n ?_ | refine g_exit ?_ | refine g_skip ?_)
              refine g_hideR fun Q_ hQ_ => ?_
              refine o_move ?_
              first | refine o_field rfl ?_ | refine o_fieldR rfl (by omega) ?_
              refine o_load1 (v := .slice S1 q.i.r.len e1) rfl rfl ?_
              refine o_len rfl rfl ?_
              refine o_lssT (t := false) rfl rfl (decide_eq_false (by omega)) ?_
              refine g_end (G.imp (hQ_ .normal _) ?_)
              clear hQ_ Q_
              try refine g_then ?_
              first | refine g_seq (g_cond_f rfl (by first | rfl | (simp; done) | (simp; omega) | (simp; assumption)) ?_) | refine g_cond_f rfl (by first | rfl | (simp; done) | (simp; omega) | (simp; assumption)) ?_
              repeat (first | refine g_endt ?_ | refine g_end ?_ | refine g_then ?_ | refine g_in_normal ?_ | refine g_then_ret ?_ | refine g_in_ret ?_ | refine g_then_exit ?_ | refine g_in_exit rfl ?_ | refine g_in_exit_ne (by decide) ?_ | refine g_seq ?_ | refine g_region ?_ | refine g_block ?_ | refine g_ret ?_ | refine g_return_n ?_ | refine g_exit ?_ | refine g_skip ?_)
              exact g_meets () trivial (Sat.mem ⟨rfl, rfl, rfl, rfl, rfl, trivial⟩)
        · first | refine g_seq (g_cond_f rfl (by simpa using hw3) ?_) | refine g_cond_f rfl (by simpa using hw3) ?_
          by_cases h3 : w = 3
          · have hst3 : stepI room (next, ls) q = (next, dropL ls q.ns.zs) := by unfold stepI; rw [if_pos (hdo.trans h3)]
            obtain ⟨rfl, rfl⟩ : next = next' ∧ dropL ls q.ns.zs = ls' := by rw [hst3] at hst2; injection hst2 with a b; exact ⟨a, b⟩
            refine G.rowG (enc := encI) (sz := 1) hnr ?_
            repeat (first | refine g_endt ?_ | refine g_end ?_ | refine g_then ?_ | refine g_in_normal ?_ | refine g_then_ret ?_ | refine g_in_ret ?_ | refine g_then_exit ?_ | refine g_in_exit rfl ?_ | refine g_in_exit_ne (by decide) ?_ | refine g_seq ?_ | refine g_region ?_ | refine g_block ?_ | refine g_ret ?_ | refine g_return_n ?_ | refine g_exit ?_ | refine g_skip ?_)
            refine g_hideR fun Q_ hQ_ => ?_
            refine o_eqlT (t := true) rfl rfl (by rw [h3]; rfl) ?_
            refine o_assign ?_
            refine g_end (G.imp (hQ_ .normal _) ?_)
            clear hQ_ Q_
            try refine g_then ?_
            first | refine g_seq (g_cond_t rfl (by first | rfl | (simp; done) | (simp; omega) | (simp; assumption)) ?_) | refine g_cond_t rfl (by first | rfl | (simp; done) | (simp; omega) | (simp; assumption)) ?_
            repeat (first | refine g_endt ?_ | refine g_end ?_ | refine g_then ?_ | refine g_in_normal ?_ | refine g_then_ret ?_ | refine g_in_ret ?_ | refine g_then_exit ?_ | refine g_in_exit rfl ?_ | refine g_in_exit_ne (by decide) ?_ | refine g_seq ?_ | refine g_region ?_ | refine g_block ?_ | refine g_ret ?_ | refine g_return_n ?_ | refine g_exit ?_ | refine g_skip ?_)
            refine g_hide fun Q_ hQ_ => ?_
            refine g_draw [3,7] [0,1,2,4,5,6,3,7,8,9] [cAct c8 q] mixed rfl ?_
            refine ob_q rfl rfl ⟨_, fun X Q h => o_move (g_end (h _ _ ⟨rfl, rfl⟩)), ?_⟩
            first | refine ob_q rfl rfl ⟨_, fun X Q h => o_field rfl (g_end (h _ _ ⟨rfl, rfl⟩)), ?_⟩ | refine ob_q rfl rfl ⟨_, fun X Q h => o_fieldR rfl (by omega) (g_end (h _ _ ⟨rfl, rfl⟩)), ?_⟩
            refine ob_q rfl rfl ⟨_, fun X Q h => o_load1 (v := .slice q.ns.a q.ns.len q.ns.cap) rfl rfl (g_end (h _ _ ⟨rfl, rfl⟩)), ?_⟩
            refine ob_q rfl rfl ⟨_, fun X Q h => o_move (g_end (h _ _ ⟨rfl, rfl⟩)), ?_⟩
            first | refine ob_q rfl rfl ⟨_, fun X Q h => o_field rfl (g_end (h _ _ ⟨rfl, rfl⟩)), ?_⟩ | refine ob_q rfl rfl ⟨_, fun X Q h => o_fieldR rfl (by omega) (g_end (h _ _ ⟨rfl, rfl⟩)), ?_⟩
            refine ob_q rfl rfl ⟨_, fun X Q h => o_load1 (v := .slice q.ns.a q.ns.len q.ns.cap) rfl rfl (g_end (h _ _ ⟨rfl, rfl⟩)), ?_⟩
            refine ob_l rfl rfl fun Qz hz => o_call (Drop14_spec s room next ls (by omega) q.ns.a q.ns.len q.ns.cap q.ns.zs rl (by omega) rfl rfl) rfl rfl ?_
            rintro _ _ ⟨rfl, rfl⟩
            refine g_end (hz _ _ ⟨_, ob_fin, ?_⟩)
            clear hz Qz
            refine ob_l rfl rfl fun Qz hz => o_call (DropR14_spec r room next ls (by omega) q.ns.a q.ns.len q.ns.cap q.ns.zs rl (by omega) rfl rfl) rfl rfl ?_
            rintro _ _ ⟨rfl, rfl⟩
            refine g_end (hz _ _ ⟨_, ob_fin, ?_⟩)
            clear hz Qz
            refine ob_q rfl rfl ⟨_, fun X Q h => o_eqlT (t := true) rfl rfl (by simp) (g_end (h _ _ ⟨rfl, rfl⟩)), ?_⟩
            refine ob_q rfl rfl ⟨_, fun X Q h => o_assign (g_end (h _ _ ⟨rfl, rfl⟩)), ?_⟩
            refine ob_nil ?_
            refine G.imp (hQ_ .normal _) ?_
            clear hQ_ Q_
            try refine g_then ?_
            repeat (first | refine g_endt ?_ | refine g_end ?_ | refine g_then ?_ | refine g_in_normal ?_ | refine g_then_ret ?_ | refine g_in_ret ?_ | refine g_then_exit ?_ | refine g_in_exit rfl ?_ | refine g_in_exit_ne (by decide) ?_ | refine g_seq ?_ | refine g_region ?_ | refine g_block ?_ | refine g_ret ?_ | refine g_return_n ?_ | refine g_exit ?_ | refine g_skip ?_)
            exact g_meets () trivial (Sat.mem ⟨rfl, rfl, rfl, rfl, rfl, trivial⟩)
          repeat (first | refine g_endt ?_ | refine g_end ?_ | refine g_then ?_ | refine g_in_normal ?_ | refine g_then_ret ?_ | refine g_in_ret ?_ | refine g_then_exit ?_ | refine g_in_exit rfl ?_ | refine g_in_exit_ne (by decide) ?_ | refine g_seq ?_ | refine g_region ?_ | refine g_block ?_ | refine g_ret ?_ | refine g_return_n ?_ | refine g_exit ?_ | refine g_skip ?_)
          refine g_hideR fun Q_ hQ_ => ?_
          refine o_eqlT (t := false) rfl rfl (by simp; omega) ?_
          refine o_assign ?_
          refine g_end (G.imp (hQ_ .normal _) ?_)
          clear hQ_ Q_
          try refine g_then ?_
          first | refine g_seq (g_cond_f rfl (by first | rfl | (simp; done) | (simp; omega) | (simp; assumption)) ?_) | refine g_cond_f rfl (by first | rfl | (simp; done) | (simp; omega) | (simp; assumption)) ?_
          by_cases h4 : w = 4
          · have hst3 : stepI room (next, ls) q = (next, dropL ls (cutN ls q.n)) := by unfold stepI; rw [if_neg (by rw [hdo]; exact h3), if_pos (hdo.trans h4)]
            obtain ⟨rfl, rfl⟩ : next = next' ∧ dropL ls (cutN ls q.n) = ls' := by rw [hst3] at hst2; injection hst2 with a b; exact ⟨a, b⟩
            have hgl : (cutN ls q.n).length ≤ ls.length := by unfold cutN; rw [List.length_map]; exact List.length_filter_le _ _
            obtain ⟨gs, hgs⟩ : ∃ gs, cutN ls q.n = gs := ⟨_, rfl⟩
            rw [hgs] at hgl ⊢
            repeat (first | refine g_endt ?_ | refine g_end ?_ | refine g_then ?_ | refine g_in_normal ?_ | refine g_then_ret ?_ | refine g_in_ret ?_ | refine g_then_exit ?_ | refine g_in_exit rfl ?_ | refine g_in_exit_ne (by decide) ?_ | refine g_seq ?_ | refine g_region ?_ | refine g_block ?_ | refine g_ret ?_ | refine g_return_n ?_ | refine g_exit ?_ | refine g_skip ?_)
            refine g_hideR fun Q_ hQ_ => ?_
            refine o_eqlT (t := true) rfl rfl (by rw [h4]; rfl) ?_
            refine o_assign ?_
            refine g_end (G.imp (hQ_ .normal _) ?_)
            clear hQ_ Q_
            try refine g_then ?_
            first | refine g_seq (g_cond_t rfl (by first | rfl | (simp; done) | (simp; omega) | (simp; assumption)) ?_) | refine g_cond_t rfl (by first | rfl | (simp; done) | (simp; omega) | (simp; assumption)) ?_
            repeat (first | refine g_endt ?_ | refine g_end ?_ | refine g_then ?_ | refine g_in_normal ?_ | refine g_then_ret ?_ | refine g_in_ret ?_ | refine g_then_exit ?_ | refine g_in_exit rfl ?_ | refine g_in_exit_ne (by decide) ?_ | refine g_seq ?_ | refine g_region ?_ | refine g_block ?_ | refine g_ret ?_ | refine g_return_n ?_ | refine g_exit ?_ | refine g_skip ?_)
            refine g_hide fun Q_ hQ_ => ?_
            refine g_draw [3,7,8] [0,1,2,4,5,6,3,7,8,9] [cAct c8 q] mixed rfl ?_
            refine ob_q rfl rfl ⟨_, fun X Q h => o_move (g_end (h _ _ ⟨rfl, rfl⟩)), ?_⟩
            first | refine ob_q rfl rfl ⟨_, fun X Q h => o_field rfl (g_end (h _ _ ⟨rfl, rfl⟩)), ?_⟩ | refine ob_q rfl rfl ⟨_, fun X Q h => o_fieldR rfl (by omega) (g_end (h _ _ ⟨rfl, rfl⟩)), ?_⟩
            refine ob_q rfl rfl ⟨_, fun X Q h => o_load1 (v := .int .i64 q.n) rfl rfl (g_end (h _ _ ⟨rfl, rfl⟩)), ?_⟩
            refine ob_q rfl rfl ⟨_, fun X Q h => o_move (g_end (h _ _ ⟨rfl, rfl⟩)), ?_⟩
            first | refine ob_q rfl rfl ⟨_, fun X Q h => o_field rfl (g_end (h _ _ ⟨rfl, rfl⟩)), ?_⟩ | refine ob_q rfl rfl ⟨_, fun X Q h => o_fieldR rfl (by omega) (g_end (h _ _ ⟨rfl, rfl⟩)), ?_⟩
            refine ob_q rfl rfl ⟨_, fun X Q h => o_load1 (v := .int .i64 q.n) rfl rfl (g_end (h _ _ ⟨rfl, rfl⟩)), ?_⟩
            refine ob_l rfl rfl fun Qz hz => o_call (Cut14_spec s room next ls (by omega) q.n hgs rfl) rfl rfl ?_
            rintro _ _ ⟨S1, e1, rfl, rfl⟩
            refine g_end (hz _ _ ⟨_, ob_fin, ?_⟩)
            clear hz Qz
            refine ob_l rfl rfl fun Qz hz => o_call (CutR14_spec r room next ls (by omega) q.n hgs rfl) rfl rfl ?_
            rintro _ _ ⟨S2, e2, rfl, rfl⟩
            refine g_end (hz _ _ ⟨_, ob_fin, ?_⟩)
            clear hz Qz
            refine ob_l rfl rfl fun Qz hz => o_callp (Ints_spec S1 S2 gs.length e1 e2 gs rfl (by omega)) rfl rfl ?_
            rintro _ _ ⟨rfl, rfl⟩
            refine g_end (hz _ _ ⟨_, ob_fin, ?_⟩)
            clear hz Qz
            refine ob_q rfl rfl ⟨_, fun X Q h => o_assign (g_end (h _ _ ⟨rfl, rfl⟩)), ?_⟩
            refine ob_nil ?_
            refine G.imp (hQ_ .normal _) ?_
            clear hQ_ Q_
            try refine g_then ?_
            repeat (first | refine g_endt ?_ | refine g_end ?_ | refine g_then ?_ | refine g_in_normal ?_ | refine g_then_ret ?_ | refine g_in_ret ?_ | refine g_then_exit ?_ | refine g_in_exit rfl ?_ | refine g_in_exit_ne (by decide) ?_ | refine g_seq ?_ | refine g_region ?_ | refine g_block ?_ | refine g_ret ?_ | refine g_return_n ?_ | refine g_exit ?_ | refine g_skip ?_)
            exact g_meets () trivial (Sat.mem ⟨rfl, rfl, rfl, rfl, rfl, trivial⟩)
          · have h5 : w = 5 := by omega
            have hst3 : stepI room (next, ls) q = (next, ls) := by unfold stepI; rw [if_neg (by rw [hdo]; exact h3), if_neg (by rw [hdo]; exact h4), if_pos (hdo.trans h5)]
            obtain ⟨rfl, rfl⟩ : next = next' ∧ ls = ls' := by rw [hst3] at hst2; injection hst2 with a b; exact ⟨a, b⟩
            repeat (first | refine g_endt ?_ | refine g_end ?_ | refine g_then ?_ | refine g_in_normal ?_ | refine g_then_ret ?_ | refine g_in_ret ?_ | refine g_then_exit ?_ | refine g_in_exit rfl ?_ | refine g_in_exit_ne (by decide) ?_ | refine g_seq ?_ | refine g_region ?_ | refine g_block ?_ | refine g_ret ?_ | refine g_return_n ?_ | refine g_exit ?_ | refine g_skip ?_)
            refine g_hideR fun Q_ hQ_ => ?_
            refine o_eqlT (t := false) rfl rfl (by simp; omega) ?_
            refine o_assign ?_
            refine g_end (G.imp (hQ_ .normal _) ?_)
            clear hQ_ Q_
            try refine g_then ?_
            first | refine g_seq (g_cond_f rfl (by first | rfl | (simp; done) | (simp; omega) | (simp; assumption)) ?_) | refine g_cond_f rfl (by first | rfl | (simp; done) | (simp; omega) | (simp; assumption)) ?_
            obtain ⟨o, ho⟩ : ∃ o, getL ls q.n = o := ⟨_, rfl⟩
            have hgt : (o.getD zeroI).tags.length ≤ 20 := by
              cases o with
              | none => exact Nat.zero_le _
              | some x => exact htag x (List.mem_of_find?_eq_some ho)
            obtain ⟨g, hg⟩ : ∃ g, o.getD zeroI = g := ⟨_, rfl⟩
            have hget := Get14_spec s room next ls (by omega) htag2 q.n ho
            rw [hg] at hget hgt
            repeat (first | refine g_endt ?_ | refine g_end ?_ | refine g_then ?_ | refine g_in_normal ?_ | refine g_then_ret ?_ | refine g_in_ret ?_ | refine g_then_exit ?_ | refine g_in_exit rfl ?_ | refine g_in_exit_ne (by decide) ?_ | refine g_seq ?_ | refine g_region ?_ | refine g_block ?_ | refine g_ret ?_ | refine g_return_n ?_ | refine g_exit ?_ | refine g_skip ?_)
            refine g_hideR fun Q_ hQ_ => ?_
            refine o_move ?_
            first | refine o_field rfl ?_ | refine o_fieldR rfl (by omega) ?_
            refine o_load1 (v := .int .i64 q.n) rfl rfl ?_
            refine o_call (hget) rfl rfl ?_
            rintro _ _ ⟨S1, e1, rfl, rfl⟩
            refine o_move ?_
            refine o_extract rfl rfl ?_
            refine o_extract rfl rfl ?_
            refine o_alloc fun c13 => ?_
            refine o_store (v := (InstV.mk g.num g.level g.name S1 g.tags.length e1 g.o).val) rfl rfl rfl rfl rfl ?_
            refine o_assign ?_
            refine g_end (G.imp (hQ_ .normal _) ?_)
            clear hQ_ Q_
            try refine g_then ?_
            refine G.norm c13 (InstV.mk g.num g.level g.name S1 g.tags.length e1 g.o).val.cells rfl ?_
            repeat (first | refine g_endt ?_ | refine g_end ?_ | refine g_then ?_ | refine g_in_normal ?_ | refine g_then_ret ?_ | refine g_in_ret ?_ | refine g_then_exit ?_ | refine g_in_exit rfl ?_ | refine g_in_exit_ne (by decide) ?_ | refine g_seq ?_ | refine g_region ?_ | refine g_block ?_ | refine g_ret ?_ | refine g_return_n ?_ | refine g_exit ?_ | refine g_skip ?_)
            refine g_hideR fun Q_ hQ_ => ?_
            refine o_build (zeroD.val) (fun w => by kernel_rfl) ?_
            refine o_alloc fun c15 => ?_
            refine o_store (v := zeroD.val) rfl rfl rfl rfl rfl ?_
            refine g_end (G.imp (hQ_ .normal _) ?_)
            clear hQ_ Q_
            try refine g_then ?_
            refine G.norm c15 zeroD.iv.val.cells rfl ?_
            refine openRI r room next ls fun a c0 => ?_
            refine openIl a ls fun ds hds hrs => ?_
            have hdl : ds.length = ls.length := by rw [← hds, List.length_map]
            rw [← hdl]
            rw [← hds] at hsrt
            repeat (first | refine g_endt ?_ | refine g_end ?_ | refine g_then ?_ | refine g_in_normal ?_ | refine g_then_ret ?_ | refine g_in_ret ?_ | refine g_then_exit ?_ | refine g_in_exit rfl ?_ | refine g_in_exit_ne (by decide) ?_ | refine g_seq ?_ | refine g_region ?_ | refine g_block ?_ | refine g_ret ?_ | refine g_return_n ?_ | refine g_exit ?_ | refine g_skip ?_)
            refine g_hideR fun Q_ hQ_ => ?_
            refine o_assign ?_
            refine g_end (G.imp (hQ_ .normal _) ?_)
            clear hQ_ Q_
            try refine g_then ?_
            refine g_cut (σ := Unit) (ds' := []) (S := fun _ => [(0, .pointer (some ⟨s, 0, none⟩)), (1, .pointer (some ⟨r, 0, none⟩)), (2, .slice A n c), (7, .int .i64 (i : Int)), (13, .pointer (some ⟨c13, 0, none⟩)), (14, .bool o.isSome), (15, .pointer (some ⟨c15, 0, none⟩)), (16, .bool (findD ds q.n).isSome)]) (H := fun _ => oI S1 e1 g.tags :: cIn c13 (InstV.mk g.num g.level g.name S1 g.tags.length e1 g.o) :: cIn c15 ((findD ds q.n).getD zeroD).iv :: rI r room next a ds.length c0 :: psl encID 5 a ds :: prowsG encI 1 (ds.map InstD.r) :: StP s room next ls :: acK A ys) (ok := fun _ => True) ?_ ?_
            · skip
              repeat (first | refine g_endt ?_ | refine g_end ?_ | refine g_then ?_ | refine g_in_normal ?_ | refine g_then_ret ?_ | refine g_in_ret ?_ | refine g_then_exit ?_ | refine g_in_exit rfl ?_ | refine g_in_exit_ne (by decide) ?_ | refine g_seq ?_ | refine g_region ?_ | refine g_block ?_ | refine g_ret ?_ | refine g_return_n ?_ | refine g_exit ?_ | refine g_skip ?_)
              refine g_hideR fun Q_ hQ_ => ?_
              refine o_assign ?_
              refine g_end (G.imp (hQ_ .normal _) ?_)
              clear hQ_ Q_
              try refine g_then ?_
              repeat (first | refine g_endt ?_ | refine g_end ?_ | refine g_then ?_ | refine g_in_normal ?_ | refine g_then_ret ?_ | refine g_in_ret ?_ | refine g_then_exit ?_ | refine g_in_exit rfl ?_ | refine g_in_exit_ne (by decide) ?_ | refine g_seq ?_ | refine g_region ?_ | refine g_block ?_ | refine g_ret ?_ | refine g_return_n ?_ | refine g_exit ?_ | refine g_skip ?_)
              refine g_loop (σ := {z : Nat × Option InstD // z.1 ≤ ds.length ∧ findD (ds.take z.1) q.n = z.2}) (S := fun z => [(0, .pointer (some ⟨s, 0, none⟩)), (1, .pointer (some ⟨r, 0, none⟩)), (2, .slice A n c), (7, .int .i64 (i : Int)), (8, .pointer (some ⟨c8, 0, none⟩)), (13, .pointer (some ⟨c13, 0, none⟩)), (14, .bool o.isSome), (15, .pointer (some ⟨c15, 0, none⟩)), (16, .bool z.1.2.isSome), (17, .int .i64 (z.1.1 : Int))])
                (H := fun z => cAct c8 q :: oI S1 e1 g.tags :: cIn c13 (InstV.mk g.num g.level g.name S1 g.tags.length e1 g.o) :: cIn c15 (z.1.2.getD zeroD).iv :: rI r room next a ds.length c0 :: psl encID 5 a ds :: prowsG encI 1 (ds.map InstD.r) :: StP s room next ls :: acK A ys) (μ := fun z => ds.length - z.1.1) (s0 := ⟨(0, none), Nat.zero_le _, rfl⟩) (Sat.mem ⟨rfl, rfl, rfl, rfl, rfl, rfl, rfl, rfl, rfl, rfl, trivial⟩) (t := by
                show Take _ (cAct c8 q :: oI S1 e1 g.tags :: cIn c13 (InstV.mk g.num g.level g.name S1 g.tags.length e1 g.o) :: cIn c15 zeroD.iv :: rI r room next a ds.length c0 :: psl encID 5 a ds :: prowsG encI 1 (ds.map InstD.r) :: StP s room next ls :: acK A ys) _
                infer_instance) ?_
              rintro ⟨⟨k, o2⟩, hk, ho2⟩ ρ3
              dsimp only at hk ho2 ⊢
              by_cases hkn : k < ds.length
              · skip
                repeat (first | refine g_endt ?_ | refine g_end ?_ | refine g_then ?_ | refine g_in_normal ?_ | refine g_then_ret ?_ | refine g_in_ret ?_ | refine g_then_exit ?_ | refine g_in_exit rfl ?_ | refine g_in_exit_ne (by decide) ?_ | refine g_seq ?_ | refine g_region ?_ | refine g_block ?_ | refine g_ret ?_ | refine g_return_n ?_ | refine g_exit ?_ | refine g_skip ?_)
                refine g_hideR fun Q_ hQ_ => ?_
                refine o_move ?_
                refine o_move ?_
                refine o_nil rfl ?_
                first | refine o_field rfl ?_ | refine o_fieldR rfl (by omega) ?_
                refine o_load1 (v := .slice a ds.length c0) rfl rfl ?_
                refine o_len rfl rfl ?_
                refine o_lssT (t := true) rfl rfl (decide_eq_true (by omega)) ?_
                refine g_end (G.imp (hQ_ .normal _) ?_)
                clear hQ_ Q_
                try refine g_then ?_
                first | refine g_seq (g_cond_t rfl (by first | rfl | (simp; done) | (simp; omega) | (simp; assumption)) ?_) | refine g_cond_t rfl (by first | rfl | (simp; done) | (simp; omega) | (simp; assumption)) ?_
                repeat (first | refine g_endt ?_ | refine g_end ?_ | refine g_then ?_ | refine g_in_normal ?_ | refine g_then_ret ?_ | refine g_in_ret ?_ | refine g_then_exit ?_ | refine g_in_exit rfl ?_ | refine g_in_exit_ne (by decide) ?_ | refine g_seq ?_ | refine g_region ?_ | refine g_block ?_ | refine g_ret ?_ | refine g_return_n ?_ | refine g_exit ?_ | refine g_skip ?_)
                obtain ⟨d, hd⟩ : ∃ d, ds[k]? = some d := ⟨_, List.getElem?_eq_getElem hkn⟩
                have hnx := findD_take (n := q.n) hsrt hd
                rw [ho2] at hnx
                by_cases hdn : d.num = q.n
                · rw [if_pos hdn] at hnx
                  repeat (first | refine g_endt ?_ | refine g_end ?_ | refine g_then ?_ | refine g_in_normal ?_ | refine g_then_ret ?_ | refine g_in_ret ?_ | refine g_then_exit ?_ | refine g_in_exit rfl ?_ | refine g_in_exit_ne (by decide) ?_ | refine g_seq ?_ | refine g_region ?_ | refine g_block ?_ | refine g_ret ?_ | refine g_return_n ?_ | refine g_exit ?_ | refine g_skip ?_)
                  refine g_hide fun Q_ hQ_ => ?_
                  refine g_draw [] [0,1,2,3,4,5,6,7,8,9,10] [rI r room next a ds.length c0, psl encID 5 a ds, cAct c8 q] mixed rfl ?_
                  refine ob_q rfl rfl ⟨_, fun X Q h => o_move (g_end (h _ _ ⟨rfl, rfl⟩)), ?_⟩
                  refine ob_q rfl rfl ⟨_, fun X Q h => o_nil rfl (g_end (h _ _ ⟨rfl, rfl⟩)), ?_⟩
                  first | refine ob_q rfl rfl ⟨_, fun X Q h => o_field rfl (g_end (h _ _ ⟨rfl, rfl⟩)), ?_⟩ | refine ob_q rfl rfl ⟨_, fun X Q h => o_fieldR rfl (by omega) (g_end (h _ _ ⟨rfl, rfl⟩)), ?_⟩
                  refine ob_q rfl rfl ⟨_, fun X Q h => o_load1 (v := .slice a ds.length c0) rfl rfl (g_end (h _ _ ⟨rfl, rfl⟩)), ?_⟩
                  refine ob_q rfl rfl ⟨_, fun X Q h => o_move (g_end (h _ _ ⟨rfl, rfl⟩)), ?_⟩
                  refine ob_q rfl rfl ⟨_, fun X Q h => o_indexR (ys := ds) (i := k) rfl rfl rfl hkn rfl rfl (g_end (h _ _ ⟨rfl, rfl⟩)), ?_⟩
                  refine ob_q rfl rfl ⟨_, fun X Q h => o_fieldR (ys := ds) rfl (by omega) (g_end (h _ _ ⟨rfl, rfl⟩)), ?_⟩
                  refine ob_q rfl rfl ⟨_, fun X Q h => o_loadE1 (ys := ds) (i := k) (off := 0) (v := .int .i64 d.num) rfl hd rfl (g_end (h _ _ ⟨rfl, rfl⟩)), ?_⟩
                  first | refine ob_q rfl rfl ⟨_, fun X Q h => o_field rfl (g_end (h _ _ ⟨rfl, rfl⟩)), ?_⟩ | refine ob_q rfl rfl ⟨_, fun X Q h => o_fieldR rfl (by omega) (g_end (h _ _ ⟨rfl, rfl⟩)), ?_⟩
                  refine ob_q rfl rfl ⟨_, fun X Q h => o_load1 (v := .int .i64 q.n) rfl rfl (g_end (h _ _ ⟨rfl, rfl⟩)), ?_⟩
                  refine ob_q rfl rfl ⟨_, fun X Q h => o_eqlT (t := true) rfl rfl (by simpa using hdn) (g_end (h _ _ ⟨rfl, rfl⟩)), ?_⟩
                  refine ob_nil ?_
                  refine G.imp (hQ_ .normal _) ?_
                  clear hQ_ Q_
                  try refine g_then ?_
                  first | refine g_seq (g_cond_t rfl (by first | rfl | (simp; done) | (simp; omega) | (simp; assumption)) ?_) | refine g_cond_t rfl (by first | rfl | (simp; done) | (simp; omega) | (simp; assumption)) ?_
                  repeat (first | refine g_endt ?_ | refine g_end ?_ | refine g_then ?_ | refine g_in_normal ?_ | refine g_then_ret ?_ | refine g_in_ret ?_ | refine g_then_exit ?_ | refine g_in_exit rfl ?_ | refine g_in_exit_ne (by decide) ?_ | refine g_seq ?_ | refine g_region ?_ | refine g_block ?_ | refine g_ret ?_ | refine g_return_n ?_ | refine g_exit ?_ | refine g_skip ?_)
                  refine g_hideR fun Q_ hQ_ => ?_
                  refine o_move ?_
                  refine o_nil rfl ?_
                  first | refine o_field rfl ?_ | refine o_fieldR rfl (by omega) ?_
                  refine o_load1 (v := .slice a ds.length c0) rfl rfl ?_
                  refine o_move ?_
                  refine o_indexR (ys := ds) (i := k) rfl rfl rfl hkn rfl rfl ?_
                  refine o_loadE (ys := ds) rfl rfl hd ?_
                  refine o_store (v := d.val) rfl rfl rfl rfl rfl ?_
                  refine o_assign ?_
                  refine g_end (G.imp (hQ_ .normal _) ?_)
                  clear hQ_ Q_
                  try refine g_then ?_
                  refine G.norm c15 d.iv.val.cells rfl ?_
                  repeat (first | refine g_endt ?_ | refine g_end ?_ | refine g_then ?_ | refine g_in_normal ?_ | refine g_then_ret ?_ | refine g_in_ret ?_ | refine g_then_exit ?_ | refine g_in_exit rfl ?_ | refine g_in_exit_ne (by decide) ?_ | refine g_seq ?_ | refine g_region ?_ | refine g_block ?_ | refine g_ret ?_ | refine g_return_n ?_ | refine g_exit ?_ | refine g_skip ?_)
                  repeat (first | refine g_endt ?_ | refine g_end ?_ | refine g_then ?_ | refine g_in_normal ?_ | refine g_then_ret ?_ | refine g_in_ret ?_ | refine g_then_exit ?_ | refine g_in_exit rfl ?_ | refine g_in_exit_ne (by decide) ?_ | refine g_seq ?_ | refine g_region ?_ | refine g_block ?_ | refine g_ret ?_ | refine g_return_n ?_ | refine g_exit ?_ | refine g_skip ?_)
                  refine g_hideR fun Q_ hQ_ => ?_
                  refine o_move ?_
                  refine o_add (c := ((k + 1 : Nat) : Int)) rfl rfl (by omega) (by omega) (by omega) ?_
                  refine o_assign ?_
                  refine g_end (G.imp (hQ_ .normal _) ?_)
                  clear hQ_ Q_
                  try refine g_then ?_
                  repeat (first | refine g_endt ?_ | refine g_end ?_ | refine g_then ?_ | refine g_in_normal ?_ | refine g_then_ret ?_ | refine g_in_ret ?_ | refine g_then_exit ?_ | refine g_in_exit rfl ?_ | refine g_in_exit_ne (by decide) ?_ | refine g_seq ?_ | refine g_region ?_ | refine g_block ?_ | refine g_ret ?_ | refine g_return_n ?_ | refine g_exit ?_ | refine g_skip ?_)
                  exact g_meets ⟨(k + 1, some d), hkn, hnx⟩ (by show ds.length - (k + 1) < ds.length - k; omega) (Sat.mem ⟨rfl, rfl, rfl, rfl, rfl, rfl, rfl, rfl, rfl, rfl, trivial⟩) (t := by
                    show Take _ (cAct c8 q :: oI S1 e1 g.tags :: cIn c13 (InstV.mk g.num g.level g.name S1 g.tags.length e1 g.o) :: cIn c15 d.iv :: rI r room next a ds.length c0 :: psl encID 5 a ds :: prowsG encI 1 (ds.map InstD.r) :: StP s room next ls :: acK A ys) _
                    infer_instance)
                · rw [if_neg hdn] at hnx
                  repeat (first | refine g_endt ?_ | refine g_end ?_ | refine g_then ?_ | refine g_in_normal ?_ | refine g_then_ret ?_ | refine g_in_ret ?_ | refine g_then_exit ?_ | refine g_in_exit rfl ?_ | refine g_in_exit_ne (by decide) ?_ | refine g_seq ?_ | refine g_region ?_ | refine g_block ?_ | refine g_ret ?_ | refine g_return_n ?_ | refine g_exit ?_ | refine g_skip ?_)
                  refine g_hide fun Q_ hQ_ => ?_
                  refine g_draw [] [0,1,2,3,4,5,6,7,8,9,10] [rI r room next a ds.length c0, psl encID 5 a ds, cAct c8 q] mixed rfl ?_
                  refine ob_q rfl rfl ⟨_, fun X Q h => o_move (g_end (h _ _ ⟨rfl, rfl⟩)), ?_⟩
                  refine ob_q rfl rfl ⟨_, fun X Q h => o_nil rfl (g_end (h _ _ ⟨rfl, rfl⟩)), ?_⟩
                  first | refine ob_q rfl rfl ⟨_, fun X Q h => o_field rfl (g_end (h _ _ ⟨rfl, rfl⟩)), ?_⟩ | refine ob_q rfl rfl ⟨_, fun X Q h => o_fieldR rfl (by omega) (g_end (h _ _ ⟨rfl, rfl⟩)), ?_⟩
                  refine ob_q rfl rfl ⟨_, fun X Q h => o_load1 (v := .slice a ds.length c0) rfl rfl (g_end (h _ _ ⟨rfl, rfl⟩)), ?_⟩
                  refine ob_q rfl rfl ⟨_, fun X Q h => o_move (g_end (h _ _ ⟨rfl, rfl⟩)), ?_⟩
                  refine ob_q rfl rfl ⟨_, fun X Q h => o_indexR (ys := ds) (i := k) rfl rfl rfl hkn rfl rfl (g_end (h _ _ ⟨rfl, rfl⟩)), ?_⟩
                  refine ob_q rfl rfl ⟨_, fun X Q h => o_fieldR (ys := ds) rfl (by omega) (g_end (h _ _ ⟨rfl, rfl⟩)), ?_⟩
                  refine ob_q rfl rfl ⟨_, fun X Q h => o_loadE1 (ys := ds) (i := k) (off := 0) (v := .int .i64 d.num) rfl hd rfl (g_end (h _ _ ⟨rfl, rfl⟩)), ?_⟩
                  first | refine ob_q rfl rfl ⟨_, fun X Q h => o_field rfl (g_end (h _ _ ⟨rfl, rfl⟩)), ?_⟩ | refine ob_q rfl rfl ⟨_, fun X Q h => o_fieldR rfl (by omega) (g_end (h _ _ ⟨rfl, rfl⟩)), ?_⟩
                  refine ob_q rfl rfl ⟨_, fun X Q h => o_load1 (v := .int .i64 q.n) rfl rfl (g_end (h _ _ ⟨rfl, rfl⟩)), ?_⟩
                  refine ob_q rfl rfl ⟨_, fun X Q h => o_eqlT (t := false) rfl rfl (by simpa using hdn) (g_end (h _ _ ⟨rfl, rfl⟩)), ?_⟩
                  refine ob_nil ?_
                  refine G.imp (hQ_ .normal _) ?_
                  clear hQ_ Q_
                  try refine g_then ?_
                  first | refine g_seq (g_cond_f rfl (by first | rfl | (simp; done) | (simp; omega) | (simp; assumption)) ?_) | refine g_cond_f rfl (by first | rfl | (simp; done) | (simp; omega) | (simp; assumption)) ?_
                  repeat (first | refine g_endt ?_ | refine g_end ?_ | refine g_then ?_ | refine g_in_normal ?_ | refine g_then_ret ?_ | refine g_in_ret ?_ | refine g_then_exit ?_ | refine g_in_exit rfl ?_ | refine g_in_exit_ne (by decide) ?_ | refine g_seq ?_ | refine g_region ?_ | refine g_block ?_ | refine g_ret ?_ | refine g_return_n ?_ | refine g_exit ?_ | refine g_skip ?_)
                  repeat (first | refine g_endt ?_ | refine g_end ?_ | refine g_then ?_ | refine g_in_normal ?_ | refine g_then_ret ?_ | refine g_in_ret ?_ | refine g_then_exit ?_ | refine g_in_exit rfl ?_ | refine g_in_exit_ne (by decide) ?_ | refine g_seq ?_ | refine g_region ?_ | refine g_block ?_ | refine g_ret ?_ | refine g_return_n ?_ | refine g_exit ?_ | refine g_skip ?_)
                  refine g_hideR fun Q_ hQ_ => ?_
                  refine o_move ?_
                  refine o_add (c := ((k + 1 : Nat) : Int)) rfl rfl (by omega) (by omega) (by omega) ?_
                  refine o_assign ?_
                  refine g_end (G.imp (hQ_ .normal _) ?_)
                  clear hQ_ Q_
                  try refine g_then ?_
                  repeat (first | refine g_endt ?_ | refine g_end ?_ | refine g_then ?_ | refine g_in_normal ?_ | refine g_then_ret ?_ | refine g_in_ret ?_ | refine g_then_exit ?_ | refine g_in_exit rfl ?_ | refine g_in_exit_ne (by decide) ?_ | refine g_seq ?_ | refine g_region ?_ | refine g_block ?_ | refine g_ret ?_ | refine g_return_n ?_ | refine g_exit ?_ | refine g_skip ?_)
                  exact g_meets ⟨(k + 1, o2), hkn, hnx⟩ (by show ds.length - (k + 1) < ds.length - k; omega) (Sat.mem ⟨rfl, rfl, rfl, rfl, rfl, rfl, rfl, rfl, rfl, rfl, trivial⟩)
              · skip
                repeat (first | refine g_endt ?_ | refine g_end ?_ | refine g_then ?_ | refine g_in_normal ?_ | refine g_then_ret ?_ | refine g_in_ret ?_ | refine g_then_exit ?_ | refine g_in_exit rfl ?_ | refine g_in_exit_ne (by decide) ?_ | refine g_seq ?_ | refine g_region ?_ | refine g_block ?_ | refine g_ret ?_ | refine g_return_n ?_ | refine g_exit ?_ | refine g_skip ?_)
                refine g_hideR fun Q_ hQ_ => ?_
                refine o_move ?_
                refine o_move ?_
                refine o_nil rfl ?_
                first | refine o_field rfl ?_ | refine o_fieldR rfl (by omega) ?_
                refine o_load1 (v := .slice a ds.length c0) rfl rfl ?_
                refine o_len rfl rfl ?_
                refine o_lssT (t := false) rfl rfl (decide_eq_false (by omega)) ?_
                refine g_end (G.imp (hQ_ .normal _) ?_)
                clear hQ_ Q_
                try refine g_then ?_
                first | refine g_seq (g_cond_f rfl (by first | rfl | (simp; done) | (simp; omega) | (simp; assumption)) ?_) | refine g_cond_f rfl (by first | rfl | (simp; done) | (simp; omega) | (simp; assumption)) ?_
                repeat (first | refine g_endt ?_ | refine g_end ?_ | refine g_then ?_ | refine g_in_normal ?_ | refine g_then_ret ?_ | refine g_in_ret ?_ | refine g_then_exit ?_ | refine g_in_exit rfl ?_ | refine g_in_exit_ne (by decide) ?_ | refine g_seq ?_ | refine g_region ?_ | refine g_block ?_ | refine g_ret ?_ | refine g_return_n ?_ | refine g_exit ?_ | refine g_skip ?_)
                have hoo : o2 = findD ds q.n := by rw [← ho2, List.take_of_length_le (by omega)]
                subst hoo
                exact g_meets () trivial (Sat.mem ⟨rfl, rfl, rfl, rfl, rfl, rfl, rfl, rfl, trivial⟩)
            · rintro _ ρ3 _
              have ho3 : (findD ds q.n).map InstD.pl = o := by rw [← findD_pl, hds]; exact ho
              obtain ⟨o2, hoo⟩ : ∃ o2, findD ds q.n = o2 := ⟨_, rfl⟩
              rw [hoo] at ho3 ⊢
              obtain ⟨dy, hdy⟩ : ∃ dy, o2.getD zeroD = dy := ⟨_, rfl⟩
              have hyg : dy.pl = g := by
                rw [← hg, ← ho3, ← hdy]
                cases o2 <;> rfl
              have hyr : ROk dy.r := by
                rw [← hdy]
                cases o2 with
                | none => exact ⟨rfl, Nat.zero_le _⟩
                | some d => exact hrs d.r (List.mem_map_of_mem (findD_mem hoo))
              have hss : o2.isSome = o.isSome := by rw [← ho3]; cases o2 <;> rfl
              rw [hdy, hss]
              obtain ⟨b, hb⟩ : ∃ b, o.isSome = b := ⟨_, rfl⟩
              rw [hb]
              obtain ⟨dx, hdx⟩ : ∃ dx : InstD, dx = ⟨g.num, g.level, g.name, ⟨S1, g.tags.length, e1, g.tags⟩, g.o⟩ := ⟨_, rfl⟩
              have hxg : dx.pl = g := by rw [hdx]; rfl
              have hxv : (InstV.mk g.num g.level g.name S1 g.tags.length e1 g.o) = dx.iv := by rw [hdx]; rfl
              have hxr : dx.r = ⟨S1, g.tags.length, e1, g.tags⟩ := by rw [hdx]
              rw [hxv]
              have hxl : dx.r.zs.length = dx.r.len := by rw [hxr]
              have hxm : dx.r.len ≤ 20 := by rw [hxr]; exact hgt
              rw [show oI S1 e1 g.tags = rwI false dx.r.a dx.r.cap dx.r.zs by rw [hxr]; rfl]
              refine G.bnil (fun d : InstD => rwI false d.r.a d.r.cap d.r.zs) ?_
              refine G.bshut [dx] (fun d : InstD => rwI false d.r.a d.r.cap d.r.zs) dx [] (List.Perm.refl _) ?_
              refine G.dup (prowsG encI 1 (ds.map InstD.r)) ?_
              refine G.psl_nil (α := Int) encI 1 ?_
              refine G.rowSnoc (enc := encI) (sz := 1) (rs := ds.map InstD.r) zeroD.r (tk := by show Take _ [prowsG encI 1 (ds.map InstD.r), psl encI 1 none []] _; infer_instance) ?_
              refine G.rowSub (enc := encI) (sz := 1) (ds.map InstD.r ++ [zeroD.r]) (rs2 := [dy].map InstD.r) (fun z hz => by
                rw [List.map_cons, List.map_nil, List.mem_singleton] at hz
                subst hz
                rw [← hdy]
                cases o2 with
                | none => simp
                | some d => exact List.mem_append_left _ (List.mem_map_of_mem (findD_mem hoo))) ?_
              have hxok : RowsOk ([dx].map InstD.r) := fun z hz => by
                rw [List.map_cons, List.map_nil, List.mem_singleton] at hz
                subst hz; exact ⟨hxl, by omega⟩
              have hyok : RowsOk ([dy].map InstD.r) := fun z hz => by
                rw [List.map_cons, List.map_nil, List.mem_singleton] at hz
                subst hz; exact hyr
              repeat (first | refine g_endt ?_ | refine g_end ?_ | refine g_then ?_ | refine g_in_normal ?_ | refine g_then_ret ?_ | refine g_in_ret ?_ | refine g_then_exit ?_ | refine g_in_exit rfl ?_ | refine g_in_exit_ne (by decide) ?_ | refine g_seq ?_ | refine g_region ?_ | refine g_block ?_ | refine g_ret ?_ | refine g_return_n ?_ | refine g_exit ?_ | refine g_skip ?_)
              refine g_hideR fun Q_ hQ_ => ?_
              refine o_move ?_
              refine o_move ?_
              refine o_eqty rfl rfl (eq_boolS b) ?_
              refine o_move ?_
              refine o_want rfl rfl rfl rfl rfl (o_loadN (v := dx.val) rfl rfl rfl ?_)
              refine o_want rfl rfl rfl rfl rfl (o_litP (e := 31) encID [dx] dx.val.cells (fun w => by kernel_rfl) (by simp [encID]) (by simp [maxLen]) fun b1 => ?_)
              refine o_want rfl rfl rfl rfl rfl (o_loadN (v := dy.val) rfl rfl rfl ?_)
              refine o_want rfl rfl rfl rfl rfl (o_litP (e := 31) encID [dy] dy.val.cells (fun w => by kernel_rfl) (by simp [encID]) (by simp [maxLen]) fun b2 => ?_)
              refine o_want rfl rfl rfl rfl rfl (o_call (InstsR_spec false (some ⟨b1, 0, none⟩) (some ⟨b2, 0, none⟩) 1 1 1 [dx] [dy] (by simp [hxg, hyg]) hxok hyok rfl (by decide)) rfl rfl ?_)
              rintro _ _ ⟨rfl, rfl⟩
              first | refine o_pick_t rfl rfl ?_ | refine o_pick_f rfl rfl ?_
              refine o_assign ?_
              refine g_end (G.imp (hQ_ .normal _) ?_)
              clear hQ_ Q_
              try refine g_then ?_
              refine G.bopen (ys := [dx]) (f := fun d : InstD => rwI false d.r.a d.r.cap d.r.zs) dx [] (List.Perm.refl _) ?_
              change G _ _ (oI dx.r.a dx.r.cap dx.r.zs :: _) _
              refine shutIl a ls ds hds hrs ?_
              rw [hdl]
              refine shutRI r room next ls a c0 rfl ?_
              repeat (first | refine g_endt ?_ | refine g_end ?_ | refine g_then ?_ | refine g_in_normal ?_ | refine g_then_ret ?_ | refine g_in_ret ?_ | refine g_then_exit ?_ | refine g_in_exit rfl ?_ | refine g_in_exit_ne (by decide) ?_ | refine g_seq ?_ | refine g_region ?_ | refine g_block ?_ | refine g_ret ?_ | refine g_return_n ?_ | refine g_exit ?_ | refine g_skip ?_)
              refine g_hideR fun Q_ hQ_ => ?_
              refine o_assign ?_
              refine g_end (G.imp (hQ_ .normal _) ?_)
              clear hQ_ Q_
              try refine g_then ?_
              repeat (first | refine g_endt ?_ | refine g_end ?_ | refine g_then ?_ | refine g_in_normal ?_ | refine g_then_ret ?_ | refine g_in_ret ?_ | refine g_then_exit ?_ | refine g_in_exit rfl ?_ | refine g_in_exit_ne (by decide) ?_ | refine g_seq ?_ | refine g_region ?_ | refine g_block ?_ | refine g_ret ?_ | refine g_return_n ?_ | refine g_exit ?_ | refine g_skip ?_)
              refine g_loop (σ := {t : Nat × List Int // t.1 ≤ dx.r.len ∧ t.2.length = dx.r.len}) (S := fun t => [(0, .pointer (some ⟨s, 0, none⟩)), (1, .pointer (some ⟨r, 0, none⟩)), (2, .slice A n c), (7, .int .i64 (i : Int)), (9, .bool true), (13, .pointer (some ⟨c13, 0, none⟩)), (18, .int .i64 (t.1.1 : Int))])
                (H := fun t => oI dx.r.a dx.r.cap t.1.2 :: cIn c13 dx.iv :: StP s room next ls :: RefI r room next ls :: acK A ys) (μ := fun t => dx.r.len - t.1.1) (s0 := ⟨(0, dx.r.zs), Nat.zero_le _, hxl⟩) (Sat.mem ⟨rfl, rfl, rfl, rfl, rfl, rfl, rfl, trivial⟩) ?_
              rintro ⟨⟨k, zs⟩, hk, hzl⟩ ρ4
              dsimp only at hk hzl ⊢
              by_cases hkn : k < dx.r.len
              · skip
                repeat (first | refine g_endt ?_ | refine g_end ?_ | refine g_then ?_ | refine g_in_normal ?_ | refine g_then_ret ?_ | refine g_in_ret ?_ | refine g_then_exit ?_ | refine g_in_exit rfl ?_ | refine g_in_exit_ne (by decide) ?_ | refine g_seq ?_ | refine g_region ?_ | refine g_block ?_ | refine g_ret ?_ | refine g_return_n ?_ | refine g_exit ?_ | refine g_skip ?_)
                refine g_hideR fun Q_ hQ_ => ?_
                refine o_move ?_
                first | refine o_field rfl ?_ | refine o_fieldR rfl (by omega) ?_
                refine o_load1 (v := .slice dx.r.a dx.r.len dx.r.cap) rfl rfl ?_
                refine o_len rfl rfl ?_
                refine o_lssT (t := true) rfl rfl (decide_eq_true (by omega)) ?_
                refine g_end (G.imp (hQ_ .normal _) ?_)
                clear hQ_ Q_
                try refine g_then ?_
                first | refine g_seq (g_cond_t rfl (by first | rfl | (simp; done) | (simp; omega) | (simp; assumption)) ?_) | refine g_cond_t rfl (by first | rfl | (simp; done) | (simp; omega) | (simp; assumption)) ?_
                repeat (first | refine g_endt ?_ | refine g_end ?_ | refine g_then ?_ | refine g_in_normal ?_ | refine g_then_ret ?_ | refine g_in_ret ?_ | refine g_then_exit ?_ | refine g_in_exit rfl ?_ | refine g_in_exit_ne (by decide) ?_ | refine g_seq ?_ | refine g_region ?_ | refine g_block ?_ | refine g_ret ?_ | refine g_return_n ?_ | refine g_exit ?_ | refine g_skip ?_)
                repeat (first | refine g_endt ?_ | refine g_end ?_ | refine g_then ?_ | refine g_in_normal ?_ | refine g_then_ret ?_ | refine g_in_ret ?_ | refine g_then_exit ?_ | refine g_in_exit rfl ?_ | refine g_in_exit_ne (by decide) ?_ | refine g_seq ?_ | refine g_region ?_ | refine g_block ?_ | refine g_ret ?_ | refine g_return_n ?_ | refine g_exit ?_ | refine g_skip ?_)
                refine g_hideR fun Q_ hQ_ => ?_
                first | refine o_field rfl ?_ | refine o_fieldR rfl (by omega) ?_
                refine o_load1 (v := .slice dx.r.a dx.r.len dx.r.cap) rfl rfl ?_
                refine o_move ?_
                refine o_indexR (ys := zs) (i := k) rfl rfl rfl (by omega) hzl rfl ?_
                refine o_storeE (e := 3) (c := dx.r.cap) (v := .int .i64 (-7)) (z := (-7 : Int)) (i := k) (enc := encI) (xs := zs) rfl rfl rfl rfl (by omega) ?_
                refine g_end (G.imp (hQ_ .normal _) ?_)
                clear hQ_ Q_
                try refine g_then ?_
                repeat (first | refine g_endt ?_ | refine g_end ?_ | refine g_then ?_ | refine g_in_normal ?_ | refine g_then_ret ?_ | refine g_in_ret ?_ | refine g_then_exit ?_ | refine g_in_exit rfl ?_ | refine g_in_exit_ne (by decide) ?_ | refine g_seq ?_ | refine g_region ?_ | refine g_block ?_ | refine g_ret ?_ | refine g_return_n ?_ | refine g_exit ?_ | refine g_skip ?_)
                repeat (first | refine g_endt ?_ | refine g_end ?_ | refine g_then ?_ | refine g_in_normal ?_ | refine g_then_ret ?_ | refine g_in_ret ?_ | refine g_then_exit ?_ | refine g_in_exit rfl ?_ | refine g_in_exit_ne (by decide) ?_ | refine g_seq ?_ | refine g_region ?_ | refine g_block ?_ | refine g_ret ?_ | refine g_return_n ?_ | refine g_exit ?_ | refine g_skip ?_)
                refine g_hideR fun Q_ hQ_ => ?_
                refine o_move ?_
                refine o_add (c := ((k + 1 : Nat) : Int)) rfl rfl (by omega) (by omega) (by omega) ?_
                refine o_assign ?_
                refine g_end (G.imp (hQ_ .normal _) ?_)
                clear hQ_ Q_
                try refine g_then ?_
                repeat (first | refine g_endt ?_ | refine g_end ?_ | refine g_then ?_ | refine g_in_normal ?_ | refine g_then_ret ?_ | refine g_in_ret ?_ | refine g_then_exit ?_ | refine g_in_exit rfl ?_ | refine g_in_exit_ne (by decide) ?_ | refine g_seq ?_ | refine g_region ?_ | refine g_block ?_ | refine g_ret ?_ | refine g_return_n ?_ | refine g_exit ?_ | refine g_skip ?_)
                exact g_meets ⟨(k + 1, zs.set k (-7)), hkn, by rw [List.length_set]; exact hzl⟩ (by show dx.r.len - (k + 1) < dx.r.len - k; omega) (Sat.mem ⟨rfl, rfl, rfl, rfl, rfl, rfl, rfl, trivial⟩)
              · skip
                repeat (first | refine g_endt ?_ | refine g_end ?_ | refine g_then ?_ | refine g_in_normal ?_ | refine g_then_ret ?_ | refine g_in_ret ?_ | refine g_then_exit ?_ | refine g_in_exit rfl ?_ | refine g_in_exit_ne (by decide) ?_ | refine g_seq ?_ | refine g_region ?_ | refine g_block ?_ | refine g_ret ?_ | refine g_return_n ?_ | refine g_exit ?_ | refine g_skip ?_)
                refine g_hideR fun Q_ hQ_ => ?_
                refine o_move ?_
                first | refine o_field rfl ?_ | refine o_fieldR rfl (by omega) ?_
                refine o_load1 (v := .slice dx.r.a dx.r.len dx.r.cap) rfl rfl ?_
                refine o_len rfl rfl ?_
                refine o_lssT (t := false) rfl rfl (decide_eq_false (by omega)) ?_
                refine g_end (G.imp (hQ_ .normal _) ?_)
                clear hQ_ Q_
                try refine g_then ?_
                first | refine g_seq (g_cond_f rfl (by first | rfl | (simp; done) | (simp; omega) | (simp; assumption)) ?_) | refine g_cond_f rfl (by first | rfl | (simp; done) | (simp; omega) | (simp; assumption)) ?_
                repeat (first | refine g_endt ?_ | refine g_end ?_ | refine g_then ?_ | refine g_in_normal ?_ | refine g_then_ret ?_ | refine g_in_ret ?_ | refine g_then_exit ?_ | refine g_in_exit rfl ?_ | refine g_in_exit_ne (by decide) ?_ | refine g_seq ?_ | refine g_region ?_ | refine g_block ?_ | refine g_ret ?_ | refine g_return_n ?_ | refine g_exit ?_ | refine g_skip ?_)
                exact g_meets () trivial (Sat.mem ⟨rfl, rfl, rfl, rfl, rfl, trivial⟩)
    · rintro _ ρ2 _
      refine openRI r room next' ls' fun a c0 => ?_
      repeat (first | refine g_endt ?_ | refine g_end ?_ | refine g_then ?_ | refine g_in_normal ?_ | refine g_then_ret ?_ | refine g_in_ret ?_ | refine g_then_exit ?_ | refine g_in_exit rfl ?_ | refine g_in_exit_ne (by decide) ?_ | refine g_seq ?_ | refine g_region ?_ | refine g_block ?_ | refine g_ret ?_ | refine g_return_n ?_ | refine g_exit ?_ | refine g_skip ?_)
      refine g_hide fun Q_ hQ_ => ?_
      refine g_draw [4,14] [0,1,2,3,5,6,7,8,9,4,10,11,12,13,15,16,17,18,14,19,20] [rI r room next' a ls'.length c0] mixed rfl ?_
      refine ob_q rfl rfl ⟨_, fun X Q h => o_move (g_end (h _ _ ⟨rfl, rfl⟩)), ?_⟩
      refine ob_q rfl rfl ⟨_, fun X Q h => o_not rfl (g_end (h _ _ ⟨rfl, rfl⟩)), ?_⟩
      refine ob_q rfl rfl ⟨_, fun X Q h => o_move (g_end (h _ _ ⟨rfl, rfl⟩)), ?_⟩
      first | refine ob_q rfl rfl ⟨_, fun X Q h => o_want rfl rfl rfl rfl rfl <| o_move (g_end (h _ _ ⟨rfl, rfl⟩)), ?_⟩ | refine ob_q rfl rfl ⟨_, fun X Q h => o_unwanted rfl rfl rfl rfl rfl (g_end (h _ _ ⟨rfl, rfl⟩)), ?_⟩ | refine ob_q rfl rfl ⟨_, fun X Q h => o_undef rfl rfl rfl (g_end (h _ _ ⟨rfl, rfl⟩)), ?_⟩
      first | refine ob_q rfl rfl ⟨_, fun X Q h => o_want rfl rfl rfl rfl rfl <| o_move (g_end (h _ _ ⟨rfl, rfl⟩)), ?_⟩ | refine ob_q rfl rfl ⟨_, fun X Q h => o_unwanted rfl rfl rfl rfl rfl (g_end (h _ _ ⟨rfl, rfl⟩)), ?_⟩ | refine ob_q rfl rfl ⟨_, fun X Q h => o_undef rfl rfl rfl (g_end (h _ _ ⟨rfl, rfl⟩)), ?_⟩
      first | refine ob_q rfl rfl ⟨_, fun X Q h => o_want rfl rfl rfl rfl rfl <| o_nil rfl (g_end (h _ _ ⟨rfl, rfl⟩)), ?_⟩ | refine ob_q rfl rfl ⟨_, fun X Q h => o_unwanted rfl rfl rfl rfl rfl (g_end (h _ _ ⟨rfl, rfl⟩)), ?_⟩ | refine ob_q rfl rfl ⟨_, fun X Q h => o_undef rfl rfl rfl (g_end (h _ _ ⟨rfl, rfl⟩)), ?_⟩
      first | refine ob_q rfl rfl ⟨_, fun X Q h => o_want rfl rfl rfl rfl rfl <| o_field rfl (g_end (h _ _ ⟨rfl, rfl⟩)), ?_⟩ | refine ob_q rfl rfl ⟨_, fun X Q h => o_want rfl rfl rfl rfl rfl <| o_fieldR rfl (by omega) (g_end (h _ _ ⟨rfl, rfl⟩)), ?_⟩ | refine ob_q rfl rfl ⟨_, fun X Q h => o_unwanted rfl rfl rfl rfl rfl (g_end (h _ _ ⟨rfl, rfl⟩)), ?_⟩ | refine ob_q rfl rfl ⟨_, fun X Q h => o_undef rfl rfl rfl (g_end (h _ _ ⟨rfl, rfl⟩)), ?_⟩
      refine ob_q rfl rfl ⟨_, fun X Q h => o_want rfl rfl rfl rfl rfl <| o_load1 (v := .slice a ls'.length c0) rfl rfl (g_end (h _ _ ⟨rfl, rfl⟩)), ?_⟩
      first | refine ob_q rfl rfl ⟨_, fun X Q h => o_want rfl rfl rfl rfl rfl <| o_len rfl rfl (g_end (h _ _ ⟨rfl, rfl⟩)), ?_⟩ | refine ob_q rfl rfl ⟨_, fun X Q h => o_unwanted rfl rfl rfl rfl rfl (g_end (h _ _ ⟨rfl, rfl⟩)), ?_⟩ | refine ob_q rfl rfl ⟨_, fun X Q h => o_undef rfl rfl rfl (g_end (h _ _ ⟨rfl, rfl⟩)), ?_⟩
      refine ob_l rfl rfl fun Qz hz => o_want rfl rfl rfl rfl rfl <| o_call (Len14_spec s room next' ls') rfl rfl ?_
      rintro _ _ ⟨rfl, rfl⟩
      refine g_end (hz _ _ ⟨_, ob_fin, ?_⟩)
      clear hz Qz
      refine ob_q rfl rfl ⟨_, fun X Q h => o_want rfl rfl rfl rfl rfl <| o_neqT (t := false) rfl rfl (by simp) (g_end (h _ _ ⟨rfl, rfl⟩)), ?_⟩
      first | refine ob_q rfl rfl ⟨_, fun X Q h => o_pick_t rfl rfl (g_end (h _ _ ⟨rfl, rfl⟩)), ?_⟩ | refine ob_q rfl rfl ⟨_, fun X Q h => o_pick_f rfl rfl (g_end (h _ _ ⟨rfl, rfl⟩)), ?_⟩
      refine ob_q rfl rfl ⟨_, fun X Q h => o_move (g_end (h _ _ ⟨rfl, rfl⟩)), ?_⟩
      first | refine ob_q rfl rfl ⟨_, fun X Q h => o_want rfl rfl rfl rfl rfl <| o_move (g_end (h _ _ ⟨rfl, rfl⟩)), ?_⟩ | refine ob_q rfl rfl ⟨_, fun X Q h => o_unwanted rfl rfl rfl rfl rfl (g_end (h _ _ ⟨rfl, rfl⟩)), ?_⟩ | refine ob_q rfl rfl ⟨_, fun X Q h => o_undef rfl rfl rfl (g_end (h _ _ ⟨rfl, rfl⟩)), ?_⟩
      first | refine ob_q rfl rfl ⟨_, fun X Q h => o_want rfl rfl rfl rfl rfl <| o_move (g_end (h _ _ ⟨rfl, rfl⟩)), ?_⟩ | refine ob_q rfl rfl ⟨_, fun X Q h => o_unwanted rfl rfl rfl rfl rfl (g_end (h _ _ ⟨rfl, rfl⟩)), ?_⟩ | refine ob_q rfl rfl ⟨_, fun X Q h => o_undef rfl rfl rfl (g_end (h _ _ ⟨rfl, rfl⟩)), ?_⟩
      first | refine ob_q rfl rfl ⟨_, fun X Q h => o_want rfl rfl rfl rfl rfl <| o_nil rfl (g_end (h _ _ ⟨rfl, rfl⟩)), ?_⟩ | refine ob_q rfl rfl ⟨_, fun X Q h => o_unwanted rfl rfl rfl rfl rfl (g_end (h _ _ ⟨rfl, rfl⟩)), ?_⟩ | refine ob_q rfl rfl ⟨_, fun X Q h => o_undef rfl rfl rfl (g_end (h _ _ ⟨rfl, rfl⟩)), ?_⟩
      first | refine ob_q rfl rfl ⟨_, fun X Q h => o_want rfl rfl rfl rfl rfl <| o_field rfl (g_end (h _ _ ⟨rfl, rfl⟩)), ?_⟩ | refine ob_q rfl rfl ⟨_, fun X Q h => o_want rfl rfl rfl rfl rfl <| o_fieldR rfl (by omega) (g_end (h _ _ ⟨rfl, rfl⟩)), ?_⟩ | refine ob_q rfl rfl ⟨_, fun X Q h => o_unwanted rfl rfl rfl rfl rfl (g_end (h _ _ ⟨rfl, rfl⟩)), ?_⟩ | refine ob_q rfl rfl ⟨_, fun X Q h => o_undef rfl rfl rfl (g_end (h _ _ ⟨rfl, rfl⟩)), ?_⟩
      refine ob_q rfl rfl ⟨_, fun X Q h => o_want rfl rfl rfl rfl rfl <| o_load1 (v := .int .i64 next') rfl rfl (g_end (h _ _ ⟨rfl, rfl⟩)), ?_⟩
      refine ob_l rfl rfl fun Qz hz => o_want rfl rfl rfl rfl rfl <| o_call (Next14_spec s room next' ls') rfl rfl ?_
      rintro _ _ ⟨rfl, rfl⟩
      refine g_end (hz _ _ ⟨_, ob_fin, ?_⟩)
      clear hz Qz
      refine ob_q rfl rfl ⟨_, fun X Q h => o_want rfl rfl rfl rfl rfl <| o_neqT (t := false) rfl rfl (by simp) (g_end (h _ _ ⟨rfl, rfl⟩)), ?_⟩
      first | refine ob_q rfl rfl ⟨_, fun X Q h => o_pick_t rfl rfl (g_end (h _ _ ⟨rfl, rfl⟩)), ?_⟩ | refine ob_q rfl rfl ⟨_, fun X Q h => o_pick_f rfl rfl (g_end (h _ _ ⟨rfl, rfl⟩)), ?_⟩
      refine ob_nil ?_
      refine G.imp (hQ_ .normal _) ?_
      clear hQ_ Q_
      try refine g_then ?_
      first | refine g_seq (g_cond_f rfl (by first | rfl | (simp; done) | (simp; omega) | (simp; assumption)) ?_) | refine g_cond_f rfl (by first | rfl | (simp; done) | (simp; omega) | (simp; assumption)) ?_
      refine shutRI r room next' ls' a c0 rfl ?_
      repeat (first | refine g_endt ?_ | refine g_end ?_ | refine g_then ?_ | refine g_in_normal ?_ | refine g_then_ret ?_ | refine g_in_ret ?_ | refine g_then_exit ?_ | refine g_in_exit rfl ?_ | refine g_in_exit_ne (by decide) ?_ | refine g_seq ?_ | refine g_region ?_ | refine g_block ?_ | refine g_ret ?_ | refine g_return_n ?_ | refine g_exit ?_ | refine g_skip ?_)
      repeat (first | refine g_endt ?_ | refine g_end ?_ | refine g_then ?_ | refine g_in_normal ?_ | refine g_then_ret ?_ | refine g_in_ret ?_ | refine g_then_exit ?_ | refine g_in_exit rfl ?_ | refine g_in_exit_ne (by decide) ?_ | refine g_seq ?_ | refine g_region ?_ | refine g_block ?_ | refine g_ret ?_ | refine g_return_n ?_ | refine g_exit ?_ | refine g_skip ?_)
      refine g_hideR fun Q_ hQ_ => ?_
      refine o_move ?_
      refine o_add (c := ((i + 1 : Nat) : Int)) rfl rfl (by omega) (by omega) (by omega) ?_
      refine o_assign ?_
      refine g_end (G.imp (hQ_ .normal _) ?_)
      clear hQ_ Q_
      try refine g_then ?_
      repeat (first | refine g_endt ?_ | refine g_end ?_ | refine g_then ?_ | refine g_in_normal ?_ | refine g_then_ret ?_ | refine g_in_ret ?_ | refine g_then_exit ?_ | refine g_in_exit rfl ?_ | refine g_in_exit_ne (by decide) ?_ | refine g_seq ?_ | refine g_region ?_ | refine g_block ?_ | refine g_ret ?_ | refine g_return_n ?_ | refine g_exit ?_ | refine g_skip ?_)
      exact g_meets ⟨(i + 1, next', ls'), hin, hT⟩ (by show n - (i + 1) < n - i; omega) (Sat.mem ⟨rfl, rfl, rfl, rfl, trivial⟩)
  · skip
    repeat (first | refine g_endt ?_ | refine g_end ?_ | refine g_then ?_ | refine g_in_normal ?_ | refine g_then_ret ?_ | refine g_in_ret ?_ | refine g_then_exit ?_ | refine g_in_exit rfl ?_ | refine g_in_exit_ne (by decide) ?_ | refine g_seq ?_ | refine g_region ?_ | refine g_block ?_ | refine g_ret ?_ | refine g_return_n ?_ | refine g_exit ?_ | refine g_skip ?_)
    refine g_hideR fun Q_ hQ_ => ?_
    refine o_move ?_
    refine o_move ?_
    refine o_len rfl rfl ?_
    refine o_lssT (t := false) rfl rfl (decide_eq_false (by omega)) ?_
    refine g_end (G.imp (hQ_ .normal _) ?_)
    clear hQ_ Q_
    try refine g_then ?_
    first | refine g_seq (g_cond_f rfl (by first | rfl | (simp; done) | (simp; omega) | (simp; assumption)) ?_) | refine g_cond_f rfl (by first | rfl | (simp; done) | (simp; omega) | (simp; assumption)) ?_
    repeat (first | refine g_endt ?_ | refine g_end ?_ | refine g_then ?_ | refine g_in_normal ?_ | refine g_then_ret ?_ | refine g_in_ret ?_ | refine g_then_exit ?_ | refine g_in_exit rfl ?_ | refine g_in_exit_ne (by decide) ?_ | refine g_seq ?_ | refine g_region ?_ | refine g_block ?_ | refine g_ret ?_ | refine g_return_n ?_ | refine g_exit ?_ | refine g_skip ?_)
    have hstf : st = (next, ls) := by rw [← hst, ← hst1, List.take_of_length_le (by omega)]
    subst hstf
    refine openRI r room next ls fun a c0 => ?_
    repeat (first | refine g_endt ?_ | refine g_end ?_ | refine g_then ?_ | refine g_in_normal ?_ | refine g_then_ret ?_ | refine g_in_ret ?_ | refine g_then_exit ?_ | refine g_in_exit rfl ?_ | refine g_in_exit_ne (by decide) ?_ | refine g_seq ?_ | refine g_region ?_ | refine g_block ?_ | refine g_ret ?_ | refine g_return_n ?_ | refine g_exit ?_ | refine g_skip ?_)
    refine g_hide fun Q_ hQ_ => ?_
    refine g_draw [1,2,7] [0,3,4,5,6,1,2,7,8] [rI r room next a ls.length c0] mixed rfl ?_
    refine ob_q rfl rfl ⟨_, fun X Q h => o_move (g_end (h _ _ ⟨rfl, rfl⟩)), ?_⟩
    refine ob_q rfl rfl ⟨_, fun X Q h => o_move (g_end (h _ _ ⟨rfl, rfl⟩)), ?_⟩
    refine ob_q rfl rfl ⟨_, fun X Q h => o_nil rfl (g_end (h _ _ ⟨rfl, rfl⟩)), ?_⟩
    first | refine ob_q rfl rfl ⟨_, fun X Q h => o_field rfl (g_end (h _ _ ⟨rfl, rfl⟩)), ?_⟩ | refine ob_q rfl rfl ⟨_, fun X Q h => o_fieldR rfl (by omega) (g_end (h _ _ ⟨rfl, rfl⟩)), ?_⟩
    refine ob_q rfl rfl ⟨_, fun X Q h => o_load1 (v := .slice a ls.length c0) rfl rfl (g_end (h _ _ ⟨rfl, rfl⟩)), ?_⟩
    refine ob_l rfl rfl fun Qz hz => o_call (All14_spec s) rfl rfl ?_
    rintro _ _ ⟨b, rfl, rfl⟩
    refine g_end (hz _ _ ⟨_, ob_fin, ?_⟩)
    clear hz Qz
    refine ob_l rfl rfl fun Qz hz => o_call (ListI_spec 39 [.pointer (some ⟨b, 0, none⟩)] ls rfl (by omega) htag2 [StP s room next ls, pSt b s] (fun K => All14_iter s b room next ls (by omega) htag2 (K ++ [StP s room next ls, pSt b s]))) rfl rfl ?_
    rintro _ _ ⟨S2, e2, rfl, rfl⟩
    refine g_end (hz _ _ ⟨_, ob_fin, ?_⟩)
    clear hz Qz
    refine ob_l rfl rfl fun Qz hz => o_callp (InstsIl_spec S2 a ls.length e2 c0 ls rfl (by omega)) rfl rfl ?_
    rintro _ _ ⟨rfl, rfl⟩
    refine g_end (hz _ _ ⟨_, ob_fin, ?_⟩)
    clear hz Qz
    refine ob_q rfl rfl ⟨_, fun X Q h => o_assign (g_end (h _ _ ⟨rfl, rfl⟩)), ?_⟩
    refine ob_nil ?_
    refine G.imp (hQ_ .normal _) ?_
    clear hQ_ Q_
    try refine g_then ?_
    refine shutRI r room next ls a c0 rfl ?_
    repeat (first | refine g_endt ?_ | refine g_end ?_ | refine g_then ?_ | refine g_in_normal ?_ | refine g_then_ret ?_ | refine g_in_ret ?_ | refine g_then_exit ?_ | refine g_in_exit rfl ?_ | refine g_in_exit_ne (by decide) ?_ | refine g_seq ?_ | refine g_region ?_ | refine g_block ?_ | refine g_ret ?_ | refine g_return_n ?_ | refine g_exit ?_ | refine g_skip ?_)
    exact ret1 (K := [StP s room next ls, RefI r room next ls]) rfl (resT (v := .bool true) rfl) ⟨rfl, rfl⟩
end Go.Proofs.Ytkglmhgehccmoaa
/- What is to be asserted, what to be retracted: the store's Diff. -/
namespace Go.Proofs.Ytkglmhgehccmoaa
open Go Go.Sl
attribute [local irreducible] Exit.then Exit.inBlock Code.wpIn roundPost bodyPostM runL Ret Meets MeetsD Begin

abbrev cS (c p : Nat) : SProp := cellsB c #[.pointer (some ⟨p, 0, none⟩)] 84
abbrev cHF (c : Nat) (hf : FuncId) (hb : List Value) : SProp := cellsB c #[.func (.func hf) #[] hb.toArray] 53
abbrev cMA (c : Nat) (m : MatD) : SProp := cellsB c m.val.cells 52
abbrev pMS (b p : Nat) : SProp := pblk b (.cells #[.pointer (some ⟨p, 0, none⟩)] 84 (0, 0))
set_option maxHeartbeats 4000000 in
theorem Diff14_spec (s : Nat) (room next : Int) (ls : List InstP) (hn : next ≤ 1000000) (hlen : ∀ x ∈ ls, x.tags.length ≤ 1000000) (gf hf : FuncId) (gb hb : List Value) (ms : List MatD) (hms : RowsOk (ms.map MatD.r)) (hml : ms.length ≤ 1000000) (hmt : ∀ d ∈ ms, d.r.zs.length ≤ 1000000) (X Y : SProp) [En Try.prog gf] [En Try.prog hf]
    (hit : ∀ K, Iter Try.prog gf gb MatD.enc' ms (K ++ [X])) (hr : Int → Bool) (hh : ∀ t : Int, Ctr Try.prog hf ([.int .i64 t] ++ hb) [Y] (fun v M => v = .bool (hr t) ∧ M = [Y]))
    {us : List MatP} {dn : List Int} (hu : upsI (ms.map MatD.pl) ls = us) (hd : downsI (ms.map MatD.pl) hr ls = dn) :
    Ctr Try.prog 24 [.pointer (some ⟨s, 0, none⟩), .func (.func gf) #[] gb.toArray, .func (.func hf) #[] hb.toArray] [StP s room next ls, prowsG encI 1 (ms.map MatD.r), X, Y]
      (fun v M => ∃ S1 c1 S2 c2, v = .tuple #[.slice S1 us.length c1, .slice S2 dn.length c2] ∧ M = [UpP S1 us, psl encI 1 S2 dn, StP s room next ls, X, Y]) := by
  refine spec_of Try.func24 rfl Try.ntmps24 rfl fun w0 F => ?_
  -- hide
  -- (*ponder/inst.Store).Diff
  repeat (first | refine g_endt ?_ | refine g_end ?_ | refine g_then ?_ | refine g_in_normal ?_ | refine g_then_ret ?_ | refine g_in_ret ?_ | refine g_then_exit ?_ | refine g_in_exit rfl ?_ | refine g_in_exit_ne (by decide) ?_ | refine g_seq ?_ | refine g_region ?_ | refine g_block ?_ | refine g_ret ?_ | refine g_return_n ?_ | refine g_exit ?_ | refine g_skip ?_)
  refine g_hideR fun Q_ hQ_ => ?_
  refine o_boxc #[.func (.func hf) #[] hb.toArray] rfl rfl fun c5 => ?_
  refine o_alloc fun c6 => ?_
  refine o_alloc fun c7 => ?_
  refine g_end (G.imp (hQ_ .normal _) ?_)
  clear hQ_ Q_
  try refine g_then ?_
  refine G.norm c6 #[.slice none 0 0] rfl ?_
  refine G.norm c7 #[.slice none 0 0] rfl ?_
  refine newGN c7 ?_
  refine G.nil_slice (α := MatD) 52 MatD.enc 2 ?_
  refine G.bnil oM ?_
  refine shutGM c6 [] none 0 [] rfl (fun _ h => nomatch h) rfl ?_
  repeat (first | refine g_endt ?_ | refine g_end ?_ | refine g_then ?_ | refine g_in_normal ?_ | refine g_then_ret ?_ | refine g_in_ret ?_ | refine g_then_exit ?_ | refine g_in_exit rfl ?_ | refine g_in_exit_ne (by decide) ?_ | refine g_seq ?_ | refine g_region ?_ | refine g_block ?_ | refine g_ret ?_ | refine g_return_n ?_ | refine g_exit ?_ | refine g_skip ?_)
  refine g_hideR fun Q_ hQ_ => ?_
  refine o_call (NewSM_spec) rfl rfl ?_
  rintro _ _ ⟨p, rfl, rfl⟩
  refine o_alloc fun c8 => ?_
  refine o_store (v := .pointer (some ⟨p, 0, none⟩)) rfl rfl rfl rfl rfl ?_
  refine g_end (G.imp (hQ_ .normal _) ?_)
  clear hQ_ Q_
  try refine g_then ?_
  refine G.norm c8 #[.pointer (some ⟨p, 0, none⟩)] rfl ?_
  repeat (first | refine g_endt ?_ | refine g_end ?_ | refine g_then ?_ | refine g_in_normal ?_ | refine g_then_ret ?_ | refine g_in_ret ?_ | refine g_then_exit ?_ | refine g_in_exit rfl ?_ | refine g_in_exit_ne (by decide) ?_ | refine g_seq ?_ | refine g_region ?_ | refine g_block ?_ | refine g_ret ?_ | refine g_return_n ?_ | refine g_exit ?_ | refine g_skip ?_)
  refine g_hideR fun Q_ hQ_ => ?_
  refine o_move ?_
  refine g_end (G.imp (hQ_ .normal _) ?_)
  clear hQ_ Q_
  try refine g_then ?_
  repeat (first | refine g_endt ?_ | refine g_end ?_ | refine g_then ?_ | refine g_in_normal ?_ | refine g_then_ret ?_ | refine g_in_ret ?_ | refine g_then_exit ?_ | refine g_in_exit rfl ?_ | refine g_in_exit_ne (by decide) ?_ | refine g_seq ?_ | refine g_region ?_ | refine g_block ?_ | refine g_ret ?_ | refine g_return_n ?_ | refine g_exit ?_ | refine g_skip ?_)
  refine g_range (ps := [24]) (lb := gb) (enc := MatD.enc') (xs := ms) rfl
    (fun pre => [cHF c5 hf hb, GrowM c6 [], GrowN c7 [], cS c8 p, SetM p (allM (pre.map MatD.pl)), StP s room next ls, prowsG encI 1 (ms.map MatD.r), Y, X])
    (fun c pre => [pu False])
    (fun K => hit [K, cHF c5 hf hb, GrowM c6 [], GrowN c7 [], cS c8 p, SetM p [], StP s room next ls, prowsG encI 1 (ms.map MatD.r), Y])
    (fun _ => rfl) (tk := (inferInstance : Take _ [cHF c5 hf hb, GrowM c6 [], GrowN c7 [], cS c8 p, SetM p [], StP s room next ls, prowsG encI 1 (ms.map MatD.r), Y, X] _)) ?_ ?_ ?_
  · intro w0 F l r pre d hp
    have hlen : pre.length < ms.length := by
      obtain ⟨t, ht⟩ := hp
      have := congrArg List.length ht
      simp at this
      omega
    have hdm : d ∈ ms := hp.subset (by simp)
    have hdr : d.r ∈ ms.map MatD.r := List.mem_map_of_mem hdm
    have hdl := hms _ hdr
    have hdt := hmt d hdm
    have hal : (allM (pre.map MatD.pl)).length ≤ 1000000 := by have := allM_len (pre.map MatD.pl); rw [List.length_map] at this; omega
    have hsn : insC MatP.cmp (allM (pre.map MatD.pl)) d.pl = allM ((pre ++ [d]).map MatD.pl) := by rw [List.map_append]; exact (allM_snoc _ _).symm
    generalize allM ((pre ++ [d]).map MatD.pl) = ax2 at hsn ⊢
    generalize allM (pre.map MatD.pl) = ax at hal hsn ⊢
    refine G.rowG (enc := encI) (sz := 1) hdr ?_
    refine G.nil_slice (α := Int) 3 encI 1 ?_
    repeat (first | refine g_endt ?_ | refine g_end ?_ | refine g_then ?_ | refine g_in_normal ?_ | refine g_then_ret ?_ | refine g_in_ret ?_ | refine g_then_exit ?_ | refine g_in_exit rfl ?_ | refine g_in_exit_ne (by decide) ?_ | refine g_seq ?_ | refine g_region ?_ | refine g_block ?_ | refine g_ret ?_ | refine g_return_n ?_ | refine g_exit ?_ | refine g_skip ?_)
    refine g_hideR fun Q_ hQ_ => ?_
    refine o_alloc fun c9 => ?_
    refine o_store (v := d.val) rfl rfl rfl rfl rfl ?_
    refine g_end (G.imp (hQ_ .normal _) ?_)
    clear hQ_ Q_
    try refine g_then ?_
    refine G.norm c9 d.val.cells rfl ?_
    repeat (first | refine g_endt ?_ | refine g_end ?_ | refine g_then ?_ | refine g_in_normal ?_ | refine g_then_ret ?_ | refine g_in_ret ?_ | refine g_then_exit ?_ | refine g_in_exit rfl ?_ | refine g_in_exit_ne (by decide) ?_ | refine g_seq ?_ | refine g_region ?_ | refine g_block ?_ | refine g_ret ?_ | refine g_return_n ?_ | refine g_exit ?_ | refine g_skip ?_)
    refine g_begin ?_
    repeat (first | refine g_endt ?_ | refine g_end ?_ | refine g_then ?_ | refine g_in_normal ?_ | refine g_then_ret ?_ | refine g_in_ret ?_ | refine g_then_exit ?_ | refine g_in_exit rfl ?_ | refine g_in_exit_ne (by decide) ?_ | refine g_seq ?_ | refine g_region ?_ | refine g_block ?_ | refine g_ret ?_ | refine g_return_n ?_ | refine g_exit ?_ | refine g_skip ?_)
    refine g_hide fun Q_ hQ_ => ?_
    refine g_draw [5,7] [0,1,2,3,4,5,6,7] [cS c8 p, cMA c9 d] mixed rfl ?_
    refine ob_q rfl rfl ⟨_, fun X Q h => o_load1 (v := .pointer (some ⟨p, 0, none⟩)) rfl rfl (g_end (h _ _ ⟨rfl, rfl⟩)), ?_⟩
    first | refine ob_q rfl rfl ⟨_, fun X Q h => o_field rfl (g_end (h _ _ ⟨rfl, rfl⟩)), ?_⟩ | refine ob_q rfl rfl ⟨_, fun X Q h => o_fieldR rfl (by omega) (g_end (h _ _ ⟨rfl, rfl⟩)), ?_⟩
    refine ob_q rfl rfl ⟨_, fun X Q h => o_load1 (v := .string d.name) rfl rfl (g_end (h _ _ ⟨rfl, rfl⟩)), ?_⟩
    first | refine ob_q rfl rfl ⟨_, fun X Q h => o_field rfl (g_end (h _ _ ⟨rfl, rfl⟩)), ?_⟩ | refine ob_q rfl rfl ⟨_, fun X Q h => o_fieldR rfl (by omega) (g_end (h _ _ ⟨rfl, rfl⟩)), ?_⟩
    refine ob_q rfl rfl ⟨_, fun X Q h => o_load1 (v := .slice d.r.a d.r.len d.r.cap) rfl rfl (g_end (h _ _ ⟨rfl, rfl⟩)), ?_⟩
    refine ob_l rfl rfl fun Qz hz => o_append0 (ys := d.r.zs) rfl rfl rfl rfl hdl.1 (by simp [maxLen]; omega) (by omega) fun S c => ?_
    refine G.bring [oI S c d.r.zs] (G.frz ?_)
    refine g_end (hz _ _ ⟨_, ob_fin, ?_⟩)
    clear hz Qz
    refine ob_q rfl rfl ⟨_, fun X Q h => o_build (MatD.mk d.name ⟨S, d.r.len, c, d.r.zs⟩).val (fun w => by kernel_rfl) (g_end (h _ _ ⟨rfl, rfl⟩)), ?_⟩
    refine ob_l rfl rfl fun Qz hz => o_call (PutSMK_spec p ax (MatD.mk d.name ⟨S, d.r.len, c, d.r.zs⟩) (by omega) hdl hsn) rfl rfl ?_
    rintro _ _ ⟨rfl, rfl⟩
    refine g_end (hz _ _ ⟨_, ob_fin, ?_⟩)
    clear hz Qz
    refine ob_nil ?_
    refine G.imp (hQ_ .normal _) ?_
    clear hQ_ Q_
    try refine g_then ?_
    repeat (first | refine g_endt ?_ | refine g_end ?_ | refine g_then ?_ | refine g_in_normal ?_ | refine g_then_ret ?_ | refine g_in_ret ?_ | refine g_then_exit ?_ | refine g_in_exit rfl ?_ | refine g_in_exit_ne (by decide) ?_ | refine g_seq ?_ | refine g_region ?_ | refine g_block ?_ | refine g_ret ?_ | refine g_return_n ?_ | refine g_exit ?_ | refine g_skip ?_)
    exact g_next
  · intro D
    have hal : (allM (ms.map MatD.pl)).length ≤ 1000000 := by have := allM_len (ms.map MatD.pl); rw [List.length_map] at this; omega
    have hat : ∀ m ∈ allM (ms.map MatD.pl), m.tags.length ≤ 1000000 := fun m hm => by
      obtain ⟨d, hd, rfl⟩ := List.mem_map.1 (allM_mem hm)
      exact hmt d hd
    obtain ⟨mps, hmps⟩ : ∃ mps, mps = ms.map MatD.pl := ⟨_, rfl⟩
    rw [← hmps] at hu hd hal hat ⊢
    repeat (first | refine g_endt ?_ | refine g_end ?_ | refine g_then ?_ | refine g_in_normal ?_ | refine g_then_ret ?_ | refine g_in_ret ?_ | refine g_then_exit ?_ | refine g_in_exit rfl ?_ | refine g_in_exit_ne (by decide) ?_ | refine g_seq ?_ | refine g_region ?_ | refine g_block ?_ | refine g_ret ?_ | refine g_return_n ?_ | refine g_exit ?_ | refine g_skip ?_)
    repeat (first | refine g_endt ?_ | refine g_end ?_ | refine g_then ?_ | refine g_in_normal ?_ | refine g_then_ret ?_ | refine g_in_ret ?_ | refine g_then_exit ?_ | refine g_in_exit rfl ?_ | refine g_in_exit_ne (by decide) ?_ | refine g_seq ?_ | refine g_region ?_ | refine g_block ?_ | refine g_ret ?_ | refine g_return_n ?_ | refine g_exit ?_ | refine g_skip ?_)
    refine g_hideR fun Q_ hQ_ => ?_
    refine o_call (NewSM_spec) rfl rfl ?_
    rintro _ _ ⟨q, rfl, rfl⟩
    refine o_alloc fun c10 => ?_
    refine o_store (v := .pointer (some ⟨q, 0, none⟩)) rfl rfl rfl rfl rfl ?_
    refine g_end (G.imp (hQ_ .normal _) ?_)
    clear hQ_ Q_
    try refine g_then ?_
    refine G.norm c10 #[.pointer (some ⟨q, 0, none⟩)] rfl ?_
    refine openSt s room next ls fun ds mp hI hds => ?_
    have hfl : (ds.map InstD.pg).length < 1000000000 := by have := hI.len; rw [List.length_map]; omega
    have hf2 : ds.length < 1000000 := by have := hI.len; omega
    repeat (first | refine g_endt ?_ | refine g_end ?_ | refine g_then ?_ | refine g_in_normal ?_ | refine g_then_ret ?_ | refine g_in_ret ?_ | refine g_then_exit ?_ | refine g_in_exit rfl ?_ | refine g_in_exit_ne (by decide) ?_ | refine g_seq ?_ | refine g_region ?_ | refine g_block ?_ | refine g_ret ?_ | refine g_return_n ?_ | refine g_exit ?_ | refine g_skip ?_)
    refine g_hideR fun Q_ hQ_ => ?_
    refine o_move ?_
    refine o_nil rfl ?_
    first | refine o_field rfl ?_ | refine o_fieldR rfl (by omega) ?_
    refine o_load1 (v := .pointer (some ⟨mp, 0, none⟩)) rfl rfl ?_
    refine o_call (AllMNI_spec mp) rfl rfl ?_
    rintro _ _ ⟨b2, rfl, rfl⟩
    refine g_end (G.imp (hQ_ .normal _) ?_)
    clear hQ_ Q_
    try refine g_then ?_
    repeat (first | refine g_endt ?_ | refine g_end ?_ | refine g_then ?_ | refine g_in_normal ?_ | refine g_then_ret ?_ | refine g_in_ret ?_ | refine g_then_exit ?_ | refine g_in_exit rfl ?_ | refine g_in_exit_ne (by decide) ?_ | refine g_seq ?_ | refine g_region ?_ | refine g_block ?_ | refine g_ret ?_ | refine g_return_n ?_ | refine g_exit ?_ | refine g_skip ?_)
    refine g_range (ps := [39, 40]) (lb := [.pointer (some ⟨b2, 0, none⟩)]) (enc := fun d : InstD => PgNI.enc2 d.pg) (xs := ds) rfl
      (fun pre => [cHF c5 hf hb, GrowM c6 [], GrowN c7 (downsI mps hr (pre.map InstD.pl)), cS c8 p, SetM p (allM mps), cS c10 q, SetM q (allM ((pre.map InstD.pl).map InstP.m)), pMI b2 mp, sC s room next mp, MapANI mp (ds.map InstD.pg), prowsG encI 1 (ds.map InstD.r), Y, X])
      (fun c pre => [pu False])
      (fun K => Iter.comp (f := InstD.pg) (AllM1NI_iter mp b2 (ds.map InstD.pg) hfl [K, cHF c5 hf hb, GrowM c6 [], GrowN c7 [], cS c8 p, SetM p (allM mps), cS c10 q, SetM q [], pMI b2 mp, sC s room next mp, MapANI mp (ds.map InstD.pg), prowsG encI 1 (ds.map InstD.r), Y, X]))
      (fun _ => rfl) (tk := (inferInstance : Take _ [cHF c5 hf hb, GrowM c6 [], GrowN c7 [], cS c8 p, SetM p (allM mps), cS c10 q, SetM q [], pMI b2 mp, sC s room next mp, MapANI mp (ds.map InstD.pg), prowsG encI 1 (ds.map InstD.r), Y, X] _)) ?_ ?_ ?_
    · intro w0 F l r pre d hp
      have hlen2 : pre.length < ds.length := by
        obtain ⟨t, ht⟩ := hp
        have := congrArg List.length ht
        simp at this
        omega
      have hdm : d ∈ ds := hp.subset (by simp)
      have hdl := hI.rows _ (List.mem_map_of_mem (f := InstD.r) hdm)
      have hdt : d.r.zs.length ≤ 1000000 := hlen d.pl (by rw [← hds]; exact List.mem_map_of_mem hdm)
      have hql : (allM ((pre.map InstD.pl).map InstP.m)).length ≤ 1000000 := by have := allM_len ((pre.map InstD.pl).map InstP.m); rw [List.length_map, List.length_map] at this; omega
      have hqs : insC MatP.cmp (allM ((pre.map InstD.pl).map InstP.m)) (MatD.mk d.name d.r).pl = allM (((pre ++ [d]).map InstD.pl).map InstP.m) := by rw [List.map_append, List.map_append]; exact (allM_snoc _ _).symm
      have hcl := downs_len mps hr (pre.map InstD.pl)
      rw [List.length_map] at hcl
      have hcs := downs_snoc mps hr (pre.map InstD.pl) d.pl
      rw [show pre.map InstD.pl ++ [d.pl] = (pre ++ [d]).map InstD.pl by rw [List.map_append]; rfl] at hcs
      generalize downsI mps hr ((pre ++ [d]).map InstD.pl) = cs2 at hcs ⊢
      generalize downsI mps hr (pre.map InstD.pl) = cs at hcl hcs ⊢
      generalize allM (((pre ++ [d]).map InstD.pl).map InstP.m) = qx2 at hqs ⊢
      generalize allM ((pre.map InstD.pl).map InstP.m) = qx at hql hqs ⊢
      obtain ⟨g, hg⟩ : ∃ g, goesI mps hr d.pl = g := ⟨_, rfl⟩
      rw [hg] at hcs
      unfold goesI at hg
      obtain ⟨ax, hax⟩ : ∃ ax, ax = allM mps := ⟨_, rfl⟩
      rw [← hax] at hg hal ⊢
      refine G.rowG (enc := encI) (sz := 1) (List.mem_map_of_mem (f := InstD.r) hdm) ?_
      repeat (first | refine g_endt ?_ | refine g_end ?_ | refine g_then ?_ | refine g_in_normal ?_ | refine g_then_ret ?_ | refine g_in_ret ?_ | refine g_then_exit ?_ | refine g_in_exit rfl ?_ | refine g_in_exit_ne (by decide) ?_ | refine g_seq ?_ | refine g_region ?_ | refine g_block ?_ | refine g_ret ?_ | refine g_return_n ?_ | refine g_exit ?_ | refine g_skip ?_)
      refine g_hideR fun Q_ hQ_ => ?_
      refine o_assign ?_
      refine g_end (G.imp (hQ_ .normal _) ?_)
      clear hQ_ Q_
      try refine g_then ?_
      repeat (first | refine g_endt ?_ | refine g_end ?_ | refine g_then ?_ | refine g_in_normal ?_ | refine g_then_ret ?_ | refine g_in_ret ?_ | refine g_then_exit ?_ | refine g_in_exit rfl ?_ | refine g_in_exit_ne (by decide) ?_ | refine g_seq ?_ | refine g_region ?_ | refine g_block ?_ | refine g_ret ?_ | refine g_return_n ?_ | refine g_exit ?_ | refine g_skip ?_)
      refine g_hideR fun Q_ hQ_ => ?_
      refine o_alloc fun c12 => ?_
      refine o_store (v := d.iv.val) rfl rfl rfl rfl rfl ?_
      refine g_end (G.imp (hQ_ .normal _) ?_)
      clear hQ_ Q_
      try refine g_then ?_
      refine G.norm c12 d.iv.val.cells rfl ?_
      repeat (first | refine g_endt ?_ | refine g_end ?_ | refine g_then ?_ | refine g_in_normal ?_ | refine g_then_ret ?_ | refine g_in_ret ?_ | refine g_then_exit ?_ | refine g_in_exit rfl ?_ | refine g_in_exit_ne (by decide) ?_ | refine g_seq ?_ | refine g_region ?_ | refine g_block ?_ | refine g_ret ?_ | refine g_return_n ?_ | refine g_exit ?_ | refine g_skip ?_)
      refine g_begin ?_
      repeat (first | refine g_endt ?_ | refine g_end ?_ | refine g_then ?_ | refine g_in_normal ?_ | refine g_then_ret ?_ | refine g_in_ret ?_ | refine g_then_exit ?_ | refine g_in_exit rfl ?_ | refine g_in_exit_ne (by decide) ?_ | refine g_seq ?_ | refine g_region ?_ | refine g_block ?_ | refine g_ret ?_ | refine g_return_n ?_ | refine g_exit ?_ | refine g_skip ?_)
      refine g_hideR fun Q_ hQ_ => ?_
      first | refine o_field rfl ?_ | refine o_fieldR rfl (by omega) ?_
      refine o_load1 (v := .string d.name) rfl rfl ?_
      first | refine o_field rfl ?_ | refine o_fieldR rfl (by omega) ?_
      refine o_load1 (v := .slice d.r.a d.r.len d.r.cap) rfl rfl ?_
      refine o_build ((MatD.mk d.name d.r).val) (fun w => by kernel_rfl) ?_
      refine o_alloc fun c13 => ?_
      refine o_store (v := (MatD.mk d.name d.r).val) rfl rfl rfl rfl rfl ?_
      refine g_end (G.imp (hQ_ .normal _) ?_)
      clear hQ_ Q_
      try refine g_then ?_
      refine G.norm c13 (MatD.mk d.name d.r).val.cells rfl ?_
      refine G.dup (psl encI 1 d.r.a d.r.zs) ?_
      repeat (first | refine g_endt ?_ | refine g_end ?_ | refine g_then ?_ | refine g_in_normal ?_ | refine g_then_ret ?_ | refine g_in_ret ?_ | refine g_then_exit ?_ | refine g_in_exit rfl ?_ | refine g_in_exit_ne (by decide) ?_ | refine g_seq ?_ | refine g_region ?_ | refine g_block ?_ | refine g_ret ?_ | refine g_return_n ?_ | refine g_exit ?_ | refine g_skip ?_)
      refine g_hideR fun Q_ hQ_ => ?_
      refine o_load1 (v := .pointer (some ⟨q, 0, none⟩)) rfl rfl ?_
      refine o_loadN (v := (MatD.mk d.name d.r).val) rfl rfl rfl ?_
      refine o_call (PutSMK_spec q qx (MatD.mk d.name d.r) (by omega) hdl hqs) rfl rfl ?_
      rintro _ _ ⟨rfl, rfl⟩
      refine g_end (G.imp (hQ_ .normal _) ?_)
      clear hQ_ Q_
      try refine g_then ?_
      repeat (first | refine g_endt ?_ | refine g_end ?_ | refine g_then ?_ | refine g_in_normal ?_ | refine g_then_ret ?_ | refine g_in_ret ?_ | refine g_then_exit ?_ | refine g_in_exit rfl ?_ | refine g_in_exit_ne (by decide) ?_ | refine g_seq ?_ | refine g_region ?_ | refine g_block ?_ | refine g_ret ?_ | refine g_return_n ?_ | refine g_exit ?_ | refine g_skip ?_)
      refine g_hideR fun Q_ hQ_ => ?_
      refine o_assign ?_
      refine g_end (G.imp (hQ_ .normal _) ?_)
      clear hQ_ Q_
      try refine g_then ?_
      refine g_cut (σ := Unit) (ds' := []) (S := fun _ => [(7, .pointer (some ⟨c7, 0, none⟩)), (11, .int .i64 d.num), (14, .bool g)]) (H := fun _ => [cHF c5 hf hb, GrowM c6 [], GrowN c7 cs, cS c8 p, SetM p ax, cS c10 q, SetM q qx2, pMI b2 mp, sC s room next mp, MapANI mp (ds.map InstD.pg), prowsG encI 1 (ds.map InstD.r), Y, X]) (ok := fun _ => True) ?_ ?_
      · skip
        repeat (first | refine g_endt ?_ | refine g_end ?_ | refine g_then ?_ | refine g_in_normal ?_ | refine g_then_ret ?_ | refine g_in_ret ?_ | refine g_then_exit ?_ | refine g_in_exit rfl ?_ | refine g_in_exit_ne (by decide) ?_ | refine g_seq ?_ | refine g_region ?_ | refine g_block ?_ | refine g_ret ?_ | refine g_return_n ?_ | refine g_exit ?_ | refine g_skip ?_)
        refine g_hideR fun Q_ hQ_ => ?_
        first | refine o_field rfl ?_ | refine o_fieldR rfl (by omega) ?_
        refine o_load1 (v := .string d.name) rfl rfl ?_
        refine o_sneq rfl rfl ?_
        refine g_end (G.imp (hQ_ .normal _) ?_)
        clear hQ_ Q_
        try refine g_then ?_
        by_cases hnm : d.name.toList = []
        · first | refine g_seq (g_cond_f rfl (by rw [hnm, empty_toList]; rfl) ?_) | refine g_cond_f rfl (by rw [hnm, empty_toList]; rfl) ?_
          rw [if_pos (show d.pl.name.toList = [] from hnm)] at hg
          repeat (first | refine g_endt ?_ | refine g_end ?_ | refine g_then ?_ | refine g_in_normal ?_ | refine g_then_ret ?_ | refine g_in_ret ?_ | refine g_then_exit ?_ | refine g_in_exit rfl ?_ | refine g_in_exit_ne (by decide) ?_ | refine g_seq ?_ | refine g_region ?_ | refine g_block ?_ | refine g_ret ?_ | refine g_return_n ?_ | refine g_exit ?_ | refine g_skip ?_)
          refine g_hideR fun Q_ hQ_ => ?_
          first | refine o_field rfl ?_ | refine o_fieldR rfl (by omega) ?_
          refine o_load1 (v := .slice d.r.a d.r.len d.r.cap) rfl rfl ?_
          refine o_len rfl rfl ?_
          refine o_move ?_
          refine g_end (G.imp (hQ_ .normal _) ?_)
          clear hQ_ Q_
          try refine g_then ?_
          repeat (first | refine g_endt ?_ | refine g_end ?_ | refine g_then ?_ | refine g_in_normal ?_ | refine g_then_ret ?_ | refine g_in_ret ?_ | refine g_then_exit ?_ | refine g_in_exit rfl ?_ | refine g_in_exit_ne (by decide) ?_ | refine g_seq ?_ | refine g_region ?_ | refine g_block ?_ | refine g_ret ?_ | refine g_return_n ?_ | refine g_exit ?_ | refine g_skip ?_)
          refine g_loop (σ := {i : Nat // i ≤ d.r.zs.length}) (S := fun i => [(5, .pointer (some ⟨c5, 0, none⟩)), (7, .pointer (some ⟨c7, 0, none⟩)), (11, .int .i64 d.num), (14, .bool ((d.r.zs.take i.1).any (fun t => !hr t))), (61, .slice d.r.a d.r.len d.r.cap), (62, .int .i64 (d.r.len : Int)), (63, .int .i64 (i.1 : Int))]) (H := fun _ => [psl encI 1 d.r.a d.r.zs, cHF c5 hf hb, GrowM c6 [], GrowN c7 cs, cS c8 p, SetM p ax, cS c10 q, SetM q qx2, pMI b2 mp, sC s room next mp, MapANI mp (ds.map InstD.pg), prowsG encI 1 (ds.map InstD.r), Y, X]) (μ := fun i => d.r.zs.length - i.1) (s0 := ⟨0, Nat.zero_le _⟩) (Sat.mem ⟨rfl, rfl, rfl, rfl, rfl, rfl, rfl, trivial⟩) ?_
          rintro ⟨i, hi⟩ ρ'
          dsimp only
          by_cases hil : i < d.r.len
          · skip
            repeat (first | refine g_endt ?_ | refine g_end ?_ | refine g_then ?_ | refine g_in_normal ?_ | refine g_then_ret ?_ | refine g_in_ret ?_ | refine g_then_exit ?_ | refine g_in_exit rfl ?_ | refine g_in_exit_ne (by decide) ?_ | refine g_seq ?_ | refine g_region ?_ | refine g_block ?_ | refine g_ret ?_ | refine g_return_n ?_ | refine g_exit ?_ | refine g_skip ?_)
            refine g_hideR fun Q_ hQ_ => ?_
            refine o_lssT (t := true) rfl rfl (decide_eq_true (by omega)) ?_
            refine g_end (G.imp (hQ_ .normal _) ?_)
            clear hQ_ Q_
            try refine g_then ?_
            first | refine g_seq (g_cond_t rfl (by first | rfl | (simp; done) | (simp; omega) | (simp; assumption)) ?_) | refine g_cond_t rfl (by first | rfl | (simp; done) | (simp; omega) | (simp; assumption)) ?_
            obtain ⟨x, hx⟩ : ∃ x, d.r.zs[i]? = some x := ⟨_, List.getElem?_eq_getElem (by omega)⟩
            have htk : d.r.zs.take (i + 1) = d.r.zs.take i ++ [x] := take_snoc d.r.zs i _ hx
            have hany : (d.r.zs.take (i + 1)).any (fun t => !hr t) = ((d.r.zs.take i).any (fun t => !hr t) || !hr x) := by rw [htk, List.any_append]; simp
            obtain ⟨a, ha⟩ : ∃ a, (d.r.zs.take i).any (fun t => !hr t) = a := ⟨_, rfl⟩
            rw [ha] at hany ⊢
            repeat (first | refine g_endt ?_ | refine g_end ?_ | refine g_then ?_ | refine g_in_normal ?_ | refine g_then_ret ?_ | refine g_in_ret ?_ | refine g_then_exit ?_ | refine g_in_exit rfl ?_ | refine g_in_exit_ne (by decide) ?_ | refine g_seq ?_ | refine g_region ?_ | refine g_block ?_ | refine g_ret ?_ | refine g_return_n ?_ | refine g_exit ?_ | refine g_skip ?_)
            repeat (first | refine g_endt ?_ | refine g_end ?_ | refine g_then ?_ | refine g_in_normal ?_ | refine g_then_ret ?_ | refine g_in_ret ?_ | refine g_then_exit ?_ | refine g_in_exit rfl ?_ | refine g_in_exit_ne (by decide) ?_ | refine g_seq ?_ | refine g_region ?_ | refine g_block ?_ | refine g_ret ?_ | refine g_return_n ?_ | refine g_exit ?_ | refine g_skip ?_)
            refine g_hideR fun Q_ hQ_ => ?_
            refine o_indexR (ys := d.r.zs) (i := i) rfl rfl rfl (by omega) hdl.1 rfl ?_
            refine o_loadE0 (ys := d.r.zs) (v := .int .i64 x) rfl hx rfl ?_
            refine o_assign ?_
            refine g_end (G.imp (hQ_ .normal _) ?_)
            clear hQ_ Q_
            try refine g_then ?_
            cases a with
            | true =>
              repeat (first | refine g_endt ?_ | refine g_end ?_ | refine g_then ?_ | refine g_in_normal ?_ | refine g_then_ret ?_ | refine g_in_ret ?_ | refine g_then_exit ?_ | refine g_in_exit rfl ?_ | refine g_in_exit_ne (by decide) ?_ | refine g_seq ?_ | refine g_region ?_ | refine g_block ?_ | refine g_ret ?_ | refine g_return_n ?_ | refine g_exit ?_ | refine g_skip ?_)
              refine g_hideR fun Q_ hQ_ => ?_
              refine o_move ?_
              refine o_move ?_
              first | refine o_unwanted rfl rfl rfl rfl rfl ?_ | refine o_undef rfl rfl rfl ?_
              first | (refine o_want rfl rfl rfl rfl rfl ?_; refine o_move ?_) | refine o_unwanted rfl rfl rfl rfl rfl ?_ | refine o_undef rfl rfl rfl ?_
              first | refine o_unwanted rfl rfl rfl rfl rfl ?_ | refine o_undef rfl rfl rfl ?_
              first | (refine o_want rfl rfl rfl rfl rfl ?_; refine o_not rfl ?_) | refine o_unwanted rfl rfl rfl rfl rfl ?_ | refine o_undef rfl rfl rfl ?_
              first | refine o_pick_t rfl rfl ?_ | refine o_pick_f rfl rfl ?_
              refine o_assign ?_
              refine g_end (G.imp (hQ_ .normal _) ?_)
              clear hQ_ Q_
              try refine g_then ?_
              repeat (first | refine g_endt ?_ | refine g_end ?_ | refine g_then ?_ | refine g_in_normal ?_ | refine g_then_ret ?_ | refine g_in_ret ?_ | refine g_then_exit ?_ | refine g_in_exit rfl ?_ | refine g_in_exit_ne (by decide) ?_ | refine g_seq ?_ | refine g_region ?_ | refine g_block ?_ | refine g_ret ?_ | refine g_return_n ?_ | refine g_exit ?_ | refine g_skip ?_)
              repeat (first | refine g_endt ?_ | refine g_end ?_ | refine g_then ?_ | refine g_in_normal ?_ | refine g_then_ret ?_ | refine g_in_ret ?_ | refine g_then_exit ?_ | refine g_in_exit rfl ?_ | refine g_in_exit_ne (by decide) ?_ | refine g_seq ?_ | refine g_region ?_ | refine g_block ?_ | refine g_ret ?_ | refine g_return_n ?_ | refine g_exit ?_ | refine g_skip ?_)
              refine g_hideR fun Q_ hQ_ => ?_
              refine o_add (c := ((i + 1 : Nat) : Int)) rfl rfl (by omega) (by omega) (by omega) ?_
              refine o_move ?_
              refine g_end (G.imp (hQ_ .normal _) ?_)
              clear hQ_ Q_
              try refine g_then ?_
              repeat (first | refine g_endt ?_ | refine g_end ?_ | refine g_then ?_ | refine g_in_normal ?_ | refine g_then_ret ?_ | refine g_in_ret ?_ | refine g_then_exit ?_ | refine g_in_exit rfl ?_ | refine g_in_exit_ne (by decide) ?_ | refine g_seq ?_ | refine g_region ?_ | refine g_block ?_ | refine g_ret ?_ | refine g_return_n ?_ | refine g_exit ?_ | refine g_skip ?_)
              exact g_meets ⟨i + 1, by omega⟩ (by show d.r.zs.length - (i + 1) < d.r.zs.length - i; omega) (Sat.mem ⟨rfl, rfl, rfl, by dsimp only; rw [hany]; rfl, rfl, rfl, rfl, trivial⟩)
            | false =>
              repeat (first | refine g_endt ?_ | refine g_end ?_ | refine g_then ?_ | refine g_in_normal ?_ | refine g_then_ret ?_ | refine g_in_ret ?_ | refine g_then_exit ?_ | refine g_in_exit rfl ?_ | refine g_in_exit_ne (by decide) ?_ | refine g_seq ?_ | refine g_region ?_ | refine g_block ?_ | refine g_ret ?_ | refine g_return_n ?_ | refine g_exit ?_ | refine g_skip ?_)
              refine g_hideR fun Q_ hQ_ => ?_
              refine o_move ?_
              refine o_move ?_
              refine o_want rfl rfl rfl rfl rfl (o_load1 (v := .func (.func hf) #[] hb.toArray) rfl rfl ?_)
              first | (refine o_want rfl rfl rfl rfl rfl ?_; refine o_move ?_) | refine o_unwanted rfl rfl rfl rfl rfl ?_ | refine o_undef rfl rfl rfl ?_
              refine o_want rfl rfl rfl rfl rfl (o_callc (cap := hb) (hh x) rfl rfl rfl ?_)
              rintro _ _ ⟨rfl, rfl⟩
              first | (refine o_want rfl rfl rfl rfl rfl ?_; refine o_not rfl ?_) | refine o_unwanted rfl rfl rfl rfl rfl ?_ | refine o_undef rfl rfl rfl ?_
              first | refine o_pick_t rfl rfl ?_ | refine o_pick_f rfl rfl ?_
              refine o_assign ?_
              refine g_end (G.imp (hQ_ .normal _) ?_)
              clear hQ_ Q_
              try refine g_then ?_
              repeat (first | refine g_endt ?_ | refine g_end ?_ | refine g_then ?_ | refine g_in_normal ?_ | refine g_then_ret ?_ | refine g_in_ret ?_ | refine g_then_exit ?_ | refine g_in_exit rfl ?_ | refine g_in_exit_ne (by decide) ?_ | refine g_seq ?_ | refine g_region ?_ | refine g_block ?_ | refine g_ret ?_ | refine g_return_n ?_ | refine g_exit ?_ | refine g_skip ?_)
              repeat (first | refine g_endt ?_ | refine g_end ?_ | refine g_then ?_ | refine g_in_normal ?_ | refine g_then_ret ?_ | refine g_in_ret ?_ | refine g_then_exit ?_ | refine g_in_exit rfl ?_ | refine g_in_exit_ne (by decide) ?_ | refine g_seq ?_ | refine g_region ?_ | refine g_block ?_ | refine g_ret ?_ | refine g_return_n ?_ | refine g_exit ?_ | refine g_skip ?_)
              refine g_hideR fun Q_ hQ_ => ?_
              refine o_add (c := ((i + 1 : Nat) : Int)) rfl rfl (by omega) (by omega) (by omega) ?_
              refine o_move ?_
              refine g_end (G.imp (hQ_ .normal _) ?_)
              clear hQ_ Q_
              try refine g_then ?_
              repeat (first | refine g_endt ?_ | refine g_end ?_ | refine g_then ?_ | refine g_in_normal ?_ | refine g_then_ret ?_ | refine g_in_ret ?_ | refine g_then_exit ?_ | refine g_in_exit rfl ?_ | refine g_in_exit_ne (by decide) ?_ | refine g_seq ?_ | refine g_region ?_ | refine g_block ?_ | refine g_ret ?_ | refine g_return_n ?_ | refine g_exit ?_ | refine g_skip ?_)
              exact g_meets ⟨i + 1, by omega⟩ (by show d.r.zs.length - (i + 1) < d.r.zs.length - i; omega) (Sat.mem ⟨rfl, rfl, rfl, by dsimp only; rw [hany]; rfl, rfl, rfl, rfl, trivial⟩)
          · skip
            repeat (first | refine g_endt ?_ | refine g_end ?_ | refine g_then ?_ | refine g_in_normal ?_ | refine g_then_ret ?_ | refine g_in_ret ?_ | refine g_then_exit ?_ | refine g_in_exit rfl ?_ | refine g_in_exit_ne (by decide) ?_ | refine g_seq ?_ | refine g_region ?_ | refine g_block ?_ | refine g_ret ?_ | refine g_return_n ?_ | refine g_exit ?_ | refine g_skip ?_)
            refine g_hideR fun Q_ hQ_ => ?_
            refine o_lssT (t := false) rfl rfl (decide_eq_false (by omega)) ?_
            refine g_end (G.imp (hQ_ .normal _) ?_)
            clear hQ_ Q_
            try refine g_then ?_
            first | refine g_seq (g_cond_f rfl (by first | rfl | (simp; done) | (simp; omega) | (simp; assumption)) ?_) | refine g_cond_f rfl (by first | rfl | (simp; done) | (simp; omega) | (simp; assumption)) ?_
            repeat (first | refine g_endt ?_ | refine g_end ?_ | refine g_then ?_ | refine g_in_normal ?_ | refine g_then_ret ?_ | refine g_in_ret ?_ | refine g_then_exit ?_ | refine g_in_exit rfl ?_ | refine g_in_exit_ne (by decide) ?_ | refine g_seq ?_ | refine g_region ?_ | refine g_block ?_ | refine g_ret ?_ | refine g_return_n ?_ | refine g_exit ?_ | refine g_skip ?_)
            have hall : d.r.zs.take i = d.r.zs := List.take_of_length_le (by omega)
            exact g_meets () trivial (Sat.mem ⟨rfl, rfl, by show Value.bool _ = Value.bool g; rw [hall]; exact congrArg Value.bool hg, trivial⟩)
        · first | refine g_seq (g_cond_t rfl (by rw [empty_toList]; simpa using hnm) ?_) | refine g_cond_t rfl (by rw [empty_toList]; simpa using hnm) ?_
          rw [if_neg (show ¬ d.pl.name.toList = [] from hnm)] at hg
          obtain ⟨hb', hhb⟩ : ∃ hb', hasC MatP.cmp ax (MatD.mk d.name d.r).pl = hb' := ⟨_, rfl⟩
          have hgg : (!hb') = g := by rw [← hhb]; exact hg
          subst hgg
          repeat (first | refine g_endt ?_ | refine g_end ?_ | refine g_then ?_ | refine g_in_normal ?_ | refine g_then_ret ?_ | refine g_in_ret ?_ | refine g_then_exit ?_ | refine g_in_exit rfl ?_ | refine g_in_exit_ne (by decide) ?_ | refine g_seq ?_ | refine g_region ?_ | refine g_block ?_ | refine g_ret ?_ | refine g_return_n ?_ | refine g_exit ?_ | refine g_skip ?_)
          refine g_hideR fun Q_ hQ_ => ?_
          refine o_load1 (v := .pointer (some ⟨p, 0, none⟩)) rfl rfl ?_
          refine o_loadN (v := (MatD.mk d.name d.r).val) rfl rfl rfl ?_
          refine o_call (PlaceSMK_spec p ax (MatD.mk d.name d.r) (by omega) hdl hhb) rfl rfl ?_
          rintro _ _ ⟨k, rfl, rfl⟩
          refine o_move ?_
          refine o_extract rfl rfl ?_
          refine o_extract rfl rfl ?_
          refine o_assign ?_
          refine o_assign ?_
          refine g_end (G.imp (hQ_ .normal _) ?_)
          clear hQ_ Q_
          try refine g_then ?_
          repeat (first | refine g_endt ?_ | refine g_end ?_ | refine g_then ?_ | refine g_in_normal ?_ | refine g_then_ret ?_ | refine g_in_ret ?_ | refine g_then_exit ?_ | refine g_in_exit rfl ?_ | refine g_in_exit_ne (by decide) ?_ | refine g_seq ?_ | refine g_region ?_ | refine g_block ?_ | refine g_ret ?_ | refine g_return_n ?_ | refine g_exit ?_ | refine g_skip ?_)
          refine g_hideR fun Q_ hQ_ => ?_
          refine o_move ?_
          refine o_not rfl ?_
          refine o_assign ?_
          refine g_end (G.imp (hQ_ .normal _) ?_)
          clear hQ_ Q_
          try refine g_then ?_
          repeat (first | refine g_endt ?_ | refine g_end ?_ | refine g_then ?_ | refine g_in_normal ?_ | refine g_then_ret ?_ | refine g_in_ret ?_ | refine g_then_exit ?_ | refine g_in_exit rfl ?_ | refine g_in_exit_ne (by decide) ?_ | refine g_seq ?_ | refine g_region ?_ | refine g_block ?_ | refine g_ret ?_ | refine g_return_n ?_ | refine g_exit ?_ | refine g_skip ?_)
          exact g_meets () trivial (Sat.mem ⟨rfl, rfl, rfl, trivial⟩)
      · intro _ ρ' _
        repeat (first | refine g_endt ?_ | refine g_end ?_ | refine g_then ?_ | refine g_in_normal ?_ | refine g_then_ret ?_ | refine g_in_ret ?_ | refine g_then_exit ?_ | refine g_in_exit rfl ?_ | refine g_in_exit_ne (by decide) ?_ | refine g_seq ?_ | refine g_region ?_ | refine g_block ?_ | refine g_ret ?_ | refine g_return_n ?_ | refine g_exit ?_ | refine g_skip ?_)
        refine g_hideR fun Q_ hQ_ => ?_
        refine o_move ?_
        refine g_end (G.imp (hQ_ .normal _) ?_)
        clear hQ_ Q_
        try refine g_then ?_
        cases g with
        | true =>
          rw [if_pos rfl] at hcs
          first | refine g_seq (g_cond_t rfl (by first | rfl | (simp; done) | (simp; omega) | (simp; assumption)) ?_) | refine g_cond_t rfl (by first | rfl | (simp; done) | (simp; omega) | (simp; assumption)) ?_
          refine openGN c7 cs fun S e => ?_
          repeat (first | refine g_endt ?_ | refine g_end ?_ | refine g_then ?_ | refine g_in_normal ?_ | refine g_then_ret ?_ | refine g_in_ret ?_ | refine g_then_exit ?_ | refine g_in_exit rfl ?_ | refine g_in_exit_ne (by decide) ?_ | refine g_seq ?_ | refine g_region ?_ | refine g_block ?_ | refine g_ret ?_ | refine g_return_n ?_ | refine g_exit ?_ | refine g_skip ?_)
          refine g_hideR fun Q_ hQ_ => ?_
          refine o_load1 (v := .slice S cs.length e) rfl rfl ?_
          refine o_move ?_
          refine o_litP (e := 3) encI [d.num] #[.int .i64 (d.num)] (fun w => by kernel_rfl) (rfl) (by simp [maxLen]) fun _ => ?_
          refine o_append (xs := cs) (ys := [d.num]) (by first | rfl | (simp only [List.length_map, List.length_take, List.length_append]; first | rfl | (congr 1; omega))) rfl rfl rfl rfl (fun _ => .inr trivial) (by simp [maxLen]; omega) (by simp; omega) fun S2 e2 => ?_
          refine o_store (v := .slice S2 (cs.length + 1) e2) rfl rfl rfl rfl rfl ?_
          refine g_end (G.imp (hQ_ .normal _) ?_)
          clear hQ_ Q_
          try refine g_then ?_
          refine G.norm c7 #[.slice S2 (cs.length + 1) e2] rfl ?_
          refine shutGN c7 (cs ++ [d.num]) S2 e2 (n := cs.length + 1) (by simp) ?_
          rw [show cs ++ [d.num] = cs2 from hcs.symm]
          repeat (first | refine g_endt ?_ | refine g_end ?_ | refine g_then ?_ | refine g_in_normal ?_ | refine g_then_ret ?_ | refine g_in_ret ?_ | refine g_then_exit ?_ | refine g_in_exit rfl ?_ | refine g_in_exit_ne (by decide) ?_ | refine g_seq ?_ | refine g_region ?_ | refine g_block ?_ | refine g_ret ?_ | refine g_return_n ?_ | refine g_exit ?_ | refine g_skip ?_)
          exact g_next
        | false =>
          rw [if_neg (by decide), List.append_nil] at hcs
          subst hcs
          first | refine g_seq (g_cond_f rfl (by first | rfl | (simp; done) | (simp; omega) | (simp; assumption)) ?_) | refine g_cond_f rfl (by first | rfl | (simp; done) | (simp; omega) | (simp; assumption)) ?_
          repeat (first | refine g_endt ?_ | refine g_end ?_ | refine g_then ?_ | refine g_in_normal ?_ | refine g_then_ret ?_ | refine g_in_ret ?_ | refine g_then_exit ?_ | refine g_in_exit rfl ?_ | refine g_in_exit_ne (by decide) ?_ | refine g_seq ?_ | refine g_region ?_ | refine g_block ?_ | refine g_ret ?_ | refine g_return_n ?_ | refine g_exit ?_ | refine g_skip ?_)
          exact g_next
    · intro D
      repeat (first | refine g_endt ?_ | refine g_end ?_ | refine g_then ?_ | refine g_in_normal ?_ | refine g_then_ret ?_ | refine g_in_ret ?_ | refine g_then_exit ?_ | refine g_in_exit rfl ?_ | refine g_in_exit_ne (by decide) ?_ | refine g_seq ?_ | refine g_region ?_ | refine g_block ?_ | refine g_ret ?_ | refine g_return_n ?_ | refine g_exit ?_ | refine g_skip ?_)
      rw [hds]
      unfold upsI at hu
      obtain ⟨st, hst⟩ : ∃ st, st = allM (ls.map InstP.m) := ⟨_, rfl⟩
      rw [← hst] at hu ⊢
      rw [hd]
      refine shutSt s room next ls ds mp hI hds ?_
      refine openSM p (allM mps) fun ys h1 h2 h3 => ?_
      have hyl : ys.length ≤ 1000000 := by have := congrArg List.length h1; rw [List.length_map] at this; omega
      have hyr : ∀ d ∈ ys, d.r.zs.length ≤ 1000000 := fun d hd => hat d.pl (by rw [← h1]; exact List.mem_map_of_mem hd)
      have hu2 : (ys.map MatD.pl).filter (fun m => !hasC MatP.cmp st m) = us := by rw [h1]; exact hu
      have hstl : st.length ≤ 1000000 := by
        rw [hst]
        have := allM_len (ls.map InstP.m)
        have e := congrArg List.length hds
        rw [List.length_map] at this e
        omega
      repeat (first | refine g_endt ?_ | refine g_end ?_ | refine g_then ?_ | refine g_in_normal ?_ | refine g_then_ret ?_ | refine g_in_ret ?_ | refine g_then_exit ?_ | refine g_in_exit rfl ?_ | refine g_in_exit_ne (by decide) ?_ | refine g_seq ?_ | refine g_region ?_ | refine g_block ?_ | refine g_ret ?_ | refine g_return_n ?_ | refine g_exit ?_ | refine g_skip ?_)
      refine g_hideR fun Q_ hQ_ => ?_
      refine o_load1 (v := .pointer (some ⟨p, 0, none⟩)) rfl rfl ?_
      refine o_call (AllMT_spec p) rfl rfl ?_
      rintro _ _ ⟨b3, rfl, rfl⟩
      refine g_end (G.imp (hQ_ .normal _) ?_)
      clear hQ_ Q_
      try refine g_then ?_
      repeat (first | refine g_endt ?_ | refine g_end ?_ | refine g_then ?_ | refine g_in_normal ?_ | refine g_then_ret ?_ | refine g_in_ret ?_ | refine g_then_exit ?_ | refine g_in_exit rfl ?_ | refine g_in_exit_ne (by decide) ?_ | refine g_seq ?_ | refine g_region ?_ | refine g_block ?_ | refine g_ret ?_ | refine g_return_n ?_ | refine g_exit ?_ | refine g_skip ?_)
      refine g_range (ps := [82]) (lb := [.pointer (some ⟨b3, 0, none⟩)]) (enc := MatD.enc') (xs := ys) rfl
        (fun pre => [GrowM c6 ((pre.map MatD.pl).filter (fun m => !hasC MatP.cmp st m)), GrowN c7 dn, cS c10 q, SetM q st, pMS b3 p, SetAMT p ys, prowsG encI 1 (ys.map MatD.r), StP s room next ls, Y, X])
        (fun c pre => [pu False])
        (fun K => All1MT_iter p b3 ys (by omega) [K, GrowM c6 [], GrowN c7 dn, cS c10 q, SetM q st, pMS b3 p, SetAMT p ys, prowsG encI 1 (ys.map MatD.r), StP s room next ls, Y, X])
        (fun _ => rfl) (tk := (inferInstance : Take _ [GrowM c6 [], GrowN c7 dn, cS c10 q, SetM q st, pMS b3 p, SetAMT p ys, prowsG encI 1 (ys.map MatD.r), StP s room next ls, Y, X] _)) ?_ ?_ ?_
      · intro w0 F l r pre d hp
        have hlen3 : pre.length < ys.length := by
          obtain ⟨t, ht⟩ := hp
          have := congrArg List.length ht
          simp at this
          omega
        have hdm : d ∈ ys := hp.subset (by simp)
        have hdl := h3 _ (List.mem_map_of_mem (f := MatD.r) hdm)
        have hdt := hyr d hdm
        obtain ⟨t, ht⟩ : ∃ t, hasC MatP.cmp st d.pl = t := ⟨_, rfl⟩
        have hcl : ((pre.map MatD.pl).filter (fun m => !hasC MatP.cmp st m)).length ≤ pre.length := by have := List.length_filter_le (fun m => !hasC MatP.cmp st m) (pre.map MatD.pl); rw [List.length_map] at this; exact this
        have hcs : ((pre ++ [d]).map MatD.pl).filter (fun m => !hasC MatP.cmp st m) = (pre.map MatD.pl).filter (fun m => !hasC MatP.cmp st m) ++ if t = true then [] else [d.pl] := by
          rw [List.map_append, List.filter_append]
          cases t <;> simp [ht]
        generalize ((pre ++ [d]).map MatD.pl).filter (fun m => !hasC MatP.cmp st m) = cs2 at hcs ⊢
        generalize (pre.map MatD.pl).filter (fun m => !hasC MatP.cmp st m) = cs at hcl hcs ⊢
        refine G.rowG (enc := encI) (sz := 1) (List.mem_map_of_mem (f := MatD.r) hdm) ?_
        repeat (first | refine g_endt ?_ | refine g_end ?_ | refine g_then ?_ | refine g_in_normal ?_ | refine g_then_ret ?_ | refine g_in_ret ?_ | refine g_then_exit ?_ | refine g_in_exit rfl ?_ | refine g_in_exit_ne (by decide) ?_ | refine g_seq ?_ | refine g_region ?_ | refine g_block ?_ | refine g_ret ?_ | refine g_return_n ?_ | refine g_exit ?_ | refine g_skip ?_)
        refine g_hideR fun Q_ hQ_ => ?_
        refine o_alloc fun c19 => ?_
        refine o_store (v := d.val) rfl rfl rfl rfl rfl ?_
        refine g_end (G.imp (hQ_ .normal _) ?_)
        clear hQ_ Q_
        try refine g_then ?_
        refine G.norm c19 d.val.cells rfl ?_
        repeat (first | refine g_endt ?_ | refine g_end ?_ | refine g_then ?_ | refine g_in_normal ?_ | refine g_then_ret ?_ | refine g_in_ret ?_ | refine g_then_exit ?_ | refine g_in_exit rfl ?_ | refine g_in_exit_ne (by decide) ?_ | refine g_seq ?_ | refine g_region ?_ | refine g_block ?_ | refine g_ret ?_ | refine g_return_n ?_ | refine g_exit ?_ | refine g_skip ?_)
        refine g_begin ?_
        refine G.dup (psl encI 1 d.r.a d.r.zs) ?_
        repeat (first | refine g_endt ?_ | refine g_end ?_ | refine g_then ?_ | refine g_in_normal ?_ | refine g_then_ret ?_ | refine g_in_ret ?_ | refine g_then_exit ?_ | refine g_in_exit rfl ?_ | refine g_in_exit_ne (by decide) ?_ | refine g_seq ?_ | refine g_region ?_ | refine g_block ?_ | refine g_ret ?_ | refine g_return_n ?_ | refine g_exit ?_ | refine g_skip ?_)
        refine g_hideR fun Q_ hQ_ => ?_
        refine o_load1 (v := .pointer (some ⟨q, 0, none⟩)) rfl rfl ?_
        refine o_loadN (v := d.val) rfl rfl rfl ?_
        refine o_call (PlaceSMK_spec q st d (by omega) hdl ht) rfl rfl ?_
        rintro _ _ ⟨k, rfl, rfl⟩
        refine o_move ?_
        refine o_extract rfl rfl ?_
        refine o_extract rfl rfl ?_
        refine o_assign ?_
        refine o_assign ?_
        refine g_end (G.imp (hQ_ .normal _) ?_)
        clear hQ_ Q_
        try refine g_then ?_
        repeat (first | refine g_endt ?_ | refine g_end ?_ | refine g_then ?_ | refine g_in_normal ?_ | refine g_then_ret ?_ | refine g_in_ret ?_ | refine g_then_exit ?_ | refine g_in_exit rfl ?_ | refine g_in_exit_ne (by decide) ?_ | refine g_seq ?_ | refine g_region ?_ | refine g_block ?_ | refine g_ret ?_ | refine g_return_n ?_ | refine g_exit ?_ | refine g_skip ?_)
        refine g_hideR fun Q_ hQ_ => ?_
        refine o_move ?_
        refine o_not rfl ?_
        refine g_end (G.imp (hQ_ .normal _) ?_)
        clear hQ_ Q_
        try refine g_then ?_
        cases t with
        | true =>
          rw [if_pos rfl, List.append_nil] at hcs
          subst hcs
          first | refine g_seq (g_cond_f rfl (by first | rfl | (simp; done) | (simp; omega) | (simp; assumption)) ?_) | refine g_cond_f rfl (by first | rfl | (simp; done) | (simp; omega) | (simp; assumption)) ?_
          repeat (first | refine g_endt ?_ | refine g_end ?_ | refine g_then ?_ | refine g_in_normal ?_ | refine g_then_ret ?_ | refine g_in_ret ?_ | refine g_then_exit ?_ | refine g_in_exit rfl ?_ | refine g_in_exit_ne (by decide) ?_ | refine g_seq ?_ | refine g_region ?_ | refine g_block ?_ | refine g_ret ?_ | refine g_return_n ?_ | refine g_exit ?_ | refine g_skip ?_)
          exact g_next
        | false =>
          rw [if_neg (by decide)] at hcs
          first | refine g_seq (g_cond_t rfl (by first | rfl | (simp; done) | (simp; omega) | (simp; assumption)) ?_) | refine g_cond_t rfl (by first | rfl | (simp; done) | (simp; omega) | (simp; assumption)) ?_
          refine openGM c6 cs fun S e mds g1 g2 => ?_
          have hml3 : mds.length = cs.length := by rw [← g1, List.length_map]
          refine G.nil_slice (α := Int) 3 encI 1 ?_
          repeat (first | refine g_endt ?_ | refine g_end ?_ | refine g_then ?_ | refine g_in_normal ?_ | refine g_then_ret ?_ | refine g_in_ret ?_ | refine g_then_exit ?_ | refine g_in_exit rfl ?_ | refine g_in_exit_ne (by decide) ?_ | refine g_seq ?_ | refine g_region ?_ | refine g_block ?_ | refine g_ret ?_ | refine g_return_n ?_ | refine g_exit ?_ | refine g_skip ?_)
          refine g_hide fun Q_ hQ_ => ?_
          refine g_draw [5,7,8,9] [0,1,2,3,4,5,6,7,8,9] [cellsB c6 #[.slice S cs.length e] 48, cMat c19 d] mixed rfl ?_
          refine ob_q rfl rfl ⟨_, fun X Q h => o_load1 (v := .slice S cs.length e) rfl rfl (g_end (h _ _ ⟨rfl, rfl⟩)), ?_⟩
          first | refine ob_q rfl rfl ⟨_, fun X Q h => o_field rfl (g_end (h _ _ ⟨rfl, rfl⟩)), ?_⟩ | refine ob_q rfl rfl ⟨_, fun X Q h => o_fieldR rfl (by omega) (g_end (h _ _ ⟨rfl, rfl⟩)), ?_⟩
          refine ob_q rfl rfl ⟨_, fun X Q h => o_load1 (v := .string d.name) rfl rfl (g_end (h _ _ ⟨rfl, rfl⟩)), ?_⟩
          first | refine ob_q rfl rfl ⟨_, fun X Q h => o_field rfl (g_end (h _ _ ⟨rfl, rfl⟩)), ?_⟩ | refine ob_q rfl rfl ⟨_, fun X Q h => o_fieldR rfl (by omega) (g_end (h _ _ ⟨rfl, rfl⟩)), ?_⟩
          refine ob_q rfl rfl ⟨_, fun X Q h => o_load1 (v := .slice d.r.a d.r.len d.r.cap) rfl rfl (g_end (h _ _ ⟨rfl, rfl⟩)), ?_⟩
          refine ob_l rfl rfl fun Qz hz => o_append0 (ys := d.r.zs) rfl rfl rfl rfl hdl.1 (by simp [maxLen]; omega) (by omega) fun S5 e5 => ?_
          refine g_end (hz _ _ ⟨_, ob_fin, ?_⟩)
          clear hz Qz
          refine ob_q rfl rfl ⟨_, fun X Q h => o_build (MatD.mk d.name ⟨S5, d.r.len, e5, d.r.zs⟩).val (fun w => by kernel_rfl) (g_end (h _ _ ⟨rfl, rfl⟩)), ?_⟩
          refine ob_l rfl rfl fun Qz hz => o_litP (e := 52) MatD.enc [MatD.mk d.name ⟨S5, d.r.len, e5, d.r.zs⟩] (MatD.mk d.name ⟨S5, d.r.len, e5, d.r.zs⟩).val.cells (fun w => by kernel_rfl) (by simp [MatD.enc]) (by simp [maxLen]) fun _ => ?_
          refine g_end (hz _ _ ⟨_, ob_fin, ?_⟩)
          clear hz Qz
          refine ob_l rfl rfl fun Qz hz => o_append (xs := mds) (ys := [MatD.mk d.name ⟨S5, d.r.len, e5, d.r.zs⟩]) (by rw [hml3]; rfl) rfl rfl rfl rfl (fun _ => .inr trivial) (by simp [maxLen]; omega) (by simp; omega) fun S2 e2 => ?_
          refine g_end (hz _ _ ⟨_, ob_fin, ?_⟩)
          clear hz Qz
          refine ob_s [] rfl rfl rfl fun Qz hz => o_store (v := .slice S2 (mds.length + 1) e2) rfl rfl rfl rfl rfl ?_
          refine g_end (hz _ _ ⟨_, ob_fin, ?_⟩)
          clear hz Qz
          refine ob_nil ?_
          refine G.imp (hQ_ .normal _) ?_
          clear hQ_ Q_
          try refine g_then ?_
          refine G.norm c6 #[.slice S2 (mds.length + 1) e2] rfl ?_
          refine G.bshut (mds ++ [MatD.mk d.name ⟨S5, d.r.len, e5, d.r.zs⟩]) oM (MatD.mk d.name ⟨S5, d.r.len, e5, d.r.zs⟩) mds (by simpa using (List.perm_append_comm (l₁ := [MatD.mk d.name ⟨S5, d.r.len, e5, d.r.zs⟩]) (l₂ := mds))) (tk := (inferInstance : Take _ [oI S5 e5 d.r.zs, bigS mds oM] _)) ?_
          refine shutGM c6 (cs ++ [d.pl]) S2 e2 (mds ++ [MatD.mk d.name ⟨S5, d.r.len, e5, d.r.zs⟩]) (by rw [List.map_append, g1]; rfl) (by rw [List.map_append]; exact g2.snoc' (q := ⟨S5, d.r.len, e5, d.r.zs⟩) hdl) (n := mds.length + 1) (by simp [hml3]) ?_
          rw [← hcs]
          repeat (first | refine g_endt ?_ | refine g_end ?_ | refine g_then ?_ | refine g_in_normal ?_ | refine g_then_ret ?_ | refine g_in_ret ?_ | refine g_then_exit ?_ | refine g_in_exit rfl ?_ | refine g_in_exit_ne (by decide) ?_ | refine g_seq ?_ | refine g_region ?_ | refine g_block ?_ | refine g_ret ?_ | refine g_return_n ?_ | refine g_exit ?_ | refine g_skip ?_)
          exact g_next
      · intro D
        rw [hu2]
        refine openGM c6 us fun S1 e1 mds g1 g2 => ?_
        refine openGN c7 dn fun S2 e2 => ?_
        refine G.bring [osl 52 MatD.enc 2 S1 e1 mds] (G.frz ?_)
        refine G.bring [oI S2 e2 dn] (G.frz ?_)
        refine shutUp S1 us mds g1 g2 ?_
        repeat (first | refine g_endt ?_ | refine g_end ?_ | refine g_then ?_ | refine g_in_normal ?_ | refine g_then_ret ?_ | refine g_in_ret ?_ | refine g_then_exit ?_ | refine g_in_exit rfl ?_ | refine g_in_exit_ne (by decide) ?_ | refine g_seq ?_ | refine g_region ?_ | refine g_block ?_ | refine g_ret ?_ | refine g_return_n ?_ | refine g_exit ?_ | refine g_skip ?_)
        repeat (first | refine g_endt ?_ | refine g_end ?_ | refine g_then ?_ | refine g_in_normal ?_ | refine g_then_ret ?_ | refine g_in_ret ?_ | refine g_then_exit ?_ | refine g_in_exit rfl ?_ | refine g_in_exit_ne (by decide) ?_ | refine g_seq ?_ | refine g_region ?_ | refine g_block ?_ | refine g_ret ?_ | refine g_return_n ?_ | refine g_exit ?_ | refine g_skip ?_)
        refine g_hide fun Q_ hQ_ => ?_
        refine g_draw [2,3] [0,1,2,3] [cellsB c6 #[.slice S1 us.length e1] 48, cellsB c7 #[.slice S2 dn.length e2] 22] mixed rfl ?_
        refine ob_q rfl rfl ⟨_, fun X Q h => o_load1 (v := .slice S1 us.length e1) rfl rfl (g_end (h _ _ ⟨rfl, rfl⟩)), ?_⟩
        refine ob_q rfl rfl ⟨_, fun X Q h => o_load1 (v := .slice S2 dn.length e2) rfl rfl (g_end (h _ _ ⟨rfl, rfl⟩)), ?_⟩
        refine ob_l rfl rfl fun Qz hz => o_store (v := .slice S1 us.length e1) rfl rfl rfl rfl rfl ?_
        refine G.norm c6 #[.slice S1 us.length e1] rfl ?_
        refine g_end (hz _ _ ⟨_, ob_fin, ?_⟩)
        clear hz Qz
        refine ob_l rfl rfl fun Qz hz => o_store (v := .slice S2 dn.length e2) rfl rfl rfl rfl rfl ?_
        refine G.norm c7 #[.slice S2 dn.length e2] rfl ?_
        refine g_end (hz _ _ ⟨_, ob_fin, ?_⟩)
        clear hz Qz
        refine ob_nil ?_
        refine G.imp (hQ_ .normal _) ?_
        clear hQ_ Q_
        try refine g_then ?_
        repeat (first | refine g_endt ?_ | refine g_end ?_ | refine g_then ?_ | refine g_in_normal ?_ | refine g_then_ret ?_ | refine g_in_ret ?_ | refine g_then_exit ?_ | refine g_in_exit rfl ?_ | refine g_in_exit_ne (by decide) ?_ | refine g_seq ?_ | refine g_region ?_ | refine g_block ?_ | refine g_ret ?_ | refine g_return_n ?_ | refine g_exit ?_ | refine g_skip ?_)
        exact ret2 (K := [UpP S1 us, psl encI 1 S2 dn, StP s room next ls, X, Y]) rfl (resC1 (v := .slice S1 us.length e1) rfl rfl) (resC1 (v := .slice S2 dn.length e2) rfl rfl) ⟨S1, e1, S2, e2, rfl, rfl⟩
      · intro D c pre hp
        exact G.pu fun h => h.elim
    · intro D c pre hp
      exact G.pu fun h => h.elim
  · intro D c pre hp
    exact G.pu fun h => h.elim
end Go.Proofs.Ytkglmhgehccmoaa
/- The law's own example. -/
namespace Go.Proofs.Ytkglmhgehccmoaa
open Go Go.Sl
attribute [local irreducible] Exit.then Exit.inBlock Code.wpIn roundPost bodyPostM runL Ret Meets MeetsD Begin

theorem cmp_same (nm : ByteArray) (x y : List Int) : MatP.cmp ⟨nm, x⟩ ⟨nm, y⟩ = cmpT x y := by
  show (if cmpS nm nm = 0 then cmpT x y else cmpS nm nm) = _
  rw [if_pos]
  exact linS.refl nm
theorem wakes_all (nm : ByteArray) : allM [⟨nm, [1, 2]⟩, ⟨nm, [2, 1]⟩] = [⟨nm, [1, 2]⟩, ⟨nm, [2, 1]⟩] := by
  have e1 : MatP.cmp ⟨nm, [1, 2]⟩ ⟨nm, [2, 1]⟩ = -1 := (cmp_same nm _ _).trans (by decide)
  simp [allM, insC, e1]
theorem wakes_ups (nm : ByteArray) : upsI [⟨nm, [1, 2]⟩, ⟨nm, [2, 1]⟩] [⟨1, 1, nm, [1, 2], false⟩] = [⟨nm, [2, 1]⟩] := by
  have e1 : MatP.cmp ⟨nm, [1, 2]⟩ ⟨nm, [2, 1]⟩ = -1 := (cmp_same nm _ _).trans (by decide)
  have e2 : MatP.cmp ⟨nm, [1, 2]⟩ ⟨nm, [1, 2]⟩ = 0 := (cmp_same nm _ _).trans (by decide)
  unfold upsI
  rw [wakes_all]
  simp [allM, insC, hasC, InstP.m, e1, e2]
theorem wakes_downs (nm : ByteArray) (hn : ¬ nm.toList = []) : downsI [⟨nm, [1, 2]⟩, ⟨nm, [2, 1]⟩] (fun _ => true) [⟨1, 1, nm, [1, 2], false⟩] = [] := by
  have e2 : MatP.cmp ⟨nm, [1, 2]⟩ ⟨nm, [1, 2]⟩ = 0 := (cmp_same nm _ _).trans (by decide)
  have : goesI [⟨nm, [1, 2]⟩, ⟨nm, [2, 1]⟩] (fun _ => true) ⟨1, 1, nm, [1, 2], false⟩ = false := by
    unfold goesI
    rw [if_neg hn, wakes_all]
    simp [hasC, InstP.m, e2]
  simp [downsI, this]
theorem a_toList : ¬ ({ data := #[97] } : ByteArray).toList = [] := by rw [ByteArray.toList_eq]; decide
theorem wakes14a_spec (t : Int) : Ctr Try.prog 33 ([.int .i64 t] ++ []) [emp] (fun v M => v = .bool ((fun _ : Int => true) t) ∧ M = [emp]) := by
  refine spec_of Try.func33 rfl Try.ntmps33 rfl fun w0 F => ?_
  -- hide
  -- ponder/ponderlaw14.wakes$1
  repeat (first | refine g_endt ?_ | refine g_end ?_ | refine g_then ?_ | refine g_in_normal ?_ | refine g_then_ret ?_ | refine g_in_ret ?_ | refine g_then_exit ?_ | refine g_in_exit rfl ?_ | refine g_in_exit_ne (by decide) ?_ | refine g_seq ?_ | refine g_region ?_ | refine g_block ?_ | refine g_ret ?_ | refine g_return_n ?_ | refine g_exit ?_ | refine g_skip ?_)
  refine g_hideR fun Q_ hQ_ => ?_
  refine o_assign ?_
  refine g_end (G.imp (hQ_ .normal _) ?_)
  clear hQ_ Q_
  try refine g_then ?_
  repeat (first | refine g_endt ?_ | refine g_end ?_ | refine g_then ?_ | refine g_in_normal ?_ | refine g_then_ret ?_ | refine g_in_ret ?_ | refine g_then_exit ?_ | refine g_in_exit rfl ?_ | refine g_in_exit_ne (by decide) ?_ | refine g_seq ?_ | refine g_region ?_ | refine g_block ?_ | refine g_ret ?_ | refine g_return_n ?_ | refine g_exit ?_ | refine g_skip ?_)
  refine g_hideR fun Q_ hQ_ => ?_
  refine o_assign ?_
  refine g_end (G.imp (hQ_ .normal _) ?_)
  clear hQ_ Q_
  try refine g_then ?_
  repeat (first | refine g_endt ?_ | refine g_end ?_ | refine g_then ?_ | refine g_in_normal ?_ | refine g_then_ret ?_ | refine g_in_ret ?_ | refine g_then_exit ?_ | refine g_in_exit rfl ?_ | refine g_in_exit_ne (by decide) ?_ | refine g_seq ?_ | refine g_region ?_ | refine g_block ?_ | refine g_ret ?_ | refine g_return_n ?_ | refine g_exit ?_ | refine g_skip ?_)
  exact ret1 (K := [emp]) rfl (resT (v := .bool true) rfl) ⟨rfl, rfl⟩
abbrev nmA : ByteArray := { data := #[97] }
set_option maxHeartbeats 2000000 in
theorem wakes14_spec : Ctr Try.prog 8 [] [] (fun v M => v = .bool true ∧ M = []) := by
  refine spec_of Try.func8 rfl Try.ntmps8 rfl fun w0 F => ?_
  -- hide
  -- ponder/ponderlaw14.wakes
  obtain ⟨ls, hls⟩ : ∃ ls : List InstP, ls = [⟨1, 1, nmA, [1, 2], false⟩] := ⟨_, rfl⟩
  have hput : putI 5 1 [] ⟨1, 1, nmA, [1, 2], false⟩ = (0, 2, ls) := by rw [hls]; rfl
  repeat (first | refine g_endt ?_ | refine g_end ?_ | refine g_then ?_ | refine g_in_normal ?_ | refine g_then_ret ?_ | refine g_in_ret ?_ | refine g_then_exit ?_ | refine g_in_exit rfl ?_ | refine g_in_exit_ne (by decide) ?_ | refine g_seq ?_ | refine g_region ?_ | refine g_block ?_ | refine g_ret ?_ | refine g_return_n ?_ | refine g_exit ?_ | refine g_skip ?_)
  refine g_hideR fun Q_ hQ_ => ?_
  refine o_assign ?_
  refine g_end (G.imp (hQ_ .normal _) ?_)
  clear hQ_ Q_
  try refine g_then ?_
  repeat (first | refine g_endt ?_ | refine g_end ?_ | refine g_then ?_ | refine g_in_normal ?_ | refine g_then_ret ?_ | refine g_in_ret ?_ | refine g_then_exit ?_ | refine g_in_exit rfl ?_ | refine g_in_exit_ne (by decide) ?_ | refine g_seq ?_ | refine g_region ?_ | refine g_block ?_ | refine g_ret ?_ | refine g_return_n ?_ | refine g_exit ?_ | refine g_skip ?_)
  refine g_hideR fun Q_ hQ_ => ?_
  refine o_call (NewG14_spec 5 (by decide) (by decide)) rfl rfl ?_
  rintro _ _ ⟨s, rfl, rfl⟩
  refine o_move ?_
  refine o_extract rfl rfl ?_
  refine o_extract rfl rfl ?_
  refine o_assign ?_
  refine o_assign ?_
  refine g_end (G.imp (hQ_ .normal _) ?_)
  clear hQ_ Q_
  try refine g_then ?_
  repeat (first | refine g_endt ?_ | refine g_end ?_ | refine g_then ?_ | refine g_in_normal ?_ | refine g_then_ret ?_ | refine g_in_ret ?_ | refine g_then_exit ?_ | refine g_in_exit rfl ?_ | refine g_in_exit_ne (by decide) ?_ | refine g_seq ?_ | refine g_region ?_ | refine g_block ?_ | refine g_ret ?_ | refine g_return_n ?_ | refine g_exit ?_ | refine g_skip ?_)
  refine g_hideR fun Q_ hQ_ => ?_
  refine o_move ?_
  refine o_neqT (t := false) rfl rfl rfl ?_
  refine o_move ?_
  first | (refine o_want rfl rfl rfl rfl rfl ?_; refine o_move ?_) | refine o_unwanted rfl rfl rfl rfl rfl ?_ | refine o_undef rfl rfl rfl ?_
  refine o_want rfl rfl rfl rfl rfl (o_peql rfl ?_)
  first | refine o_pick_t rfl rfl ?_ | refine o_pick_f rfl rfl ?_
  refine o_move ?_
  first | (refine o_want rfl rfl rfl rfl rfl ?_; refine o_move ?_) | refine o_unwanted rfl rfl rfl rfl rfl ?_ | refine o_undef rfl rfl rfl ?_
  refine o_want rfl rfl rfl rfl rfl (o_litP (e := 3) encI [1, 2] #[.int .i64 1, .int .i64 2] (fun w => by kernel_rfl) rfl (by simp [maxLen]) fun b => ?_)
  refine o_want rfl rfl rfl rfl rfl (o_build (InstV.mk 1 1 nmA (some ⟨b, 0, none⟩) 2 2 false).val (fun w => by kernel_rfl) ?_)
  refine o_want rfl rfl rfl rfl rfl (o_call (Put14_spec s 5 1 [] (InstV.mk 1 1 nmA (some ⟨b, 0, none⟩) 2 2 false) [1, 2] rfl (show 2 ≤ 1000000 by decide) (by decide) hput) rfl rfl ?_)
  rintro _ _ ⟨rfl, rfl⟩
  refine o_want rfl rfl rfl rfl rfl (o_neqT (t := false) rfl rfl rfl ?_)
  first | refine o_pick_t rfl rfl ?_ | refine o_pick_f rfl rfl ?_
  refine g_end (G.imp (hQ_ .normal _) ?_)
  clear hQ_ Q_
  try refine g_then ?_
  first | refine g_seq (g_cond_f rfl (by first | rfl | (simp; done) | (simp; omega) | (simp; assumption)) ?_) | refine g_cond_f rfl (by first | rfl | (simp; done) | (simp; omega) | (simp; assumption)) ?_
  repeat (first | refine g_endt ?_ | refine g_end ?_ | refine g_then ?_ | refine g_in_normal ?_ | refine g_then_ret ?_ | refine g_in_ret ?_ | refine g_then_exit ?_ | refine g_in_exit rfl ?_ | refine g_in_exit_ne (by decide) ?_ | refine g_seq ?_ | refine g_region ?_ | refine g_block ?_ | refine g_ret ?_ | refine g_return_n ?_ | refine g_exit ?_ | refine g_skip ?_)
  refine g_hideR fun Q_ hQ_ => ?_
  refine o_litP (e := 3) encI [1, 2] #[.int .i64 1, .int .i64 2] (fun w => by kernel_rfl) rfl (by simp [maxLen]) fun b1 => ?_
  refine o_build (MatD.mk nmA ⟨some ⟨b1, 0, none⟩, 2, 2, [1, 2]⟩).val (fun w => by kernel_rfl) ?_
  refine o_litP (e := 3) encI [2, 1] #[.int .i64 2, .int .i64 1] (fun w => by kernel_rfl) rfl (by simp [maxLen]) fun b2 => ?_
  refine o_build (MatD.mk nmA ⟨some ⟨b2, 0, none⟩, 2, 2, [2, 1]⟩).val (fun w => by kernel_rfl) ?_
  refine o_litP (e := 52) MatD.enc [MatD.mk nmA ⟨some ⟨b1, 0, none⟩, 2, 2, [1, 2]⟩, MatD.mk nmA ⟨some ⟨b2, 0, none⟩, 2, 2, [2, 1]⟩] #[.string nmA, .slice (some ⟨b1, 0, none⟩) 2 2, .string nmA, .slice (some ⟨b2, 0, none⟩) 2 2] (fun w => by kernel_rfl) (by simp [MatD.enc, MatD.val, Value.cells]) (by simp [maxLen]) fun b3 => ?_
  refine o_assign ?_
  refine g_end (G.imp (hQ_ .normal _) ?_)
  clear hQ_ Q_
  try refine g_then ?_
  obtain ⟨m1, hm1⟩ : ∃ m1 : MatD, m1 = MatD.mk nmA ⟨some ⟨b1, 0, none⟩, 2, 2, [1, 2]⟩ := ⟨_, rfl⟩
  obtain ⟨m2, hm2⟩ : ∃ m2 : MatD, m2 = MatD.mk nmA ⟨some ⟨b2, 0, none⟩, 2, 2, [2, 1]⟩ := ⟨_, rfl⟩
  rw [← hm1, ← hm2]
  have hp1 : m1.pl = ⟨nmA, [1, 2]⟩ := by rw [hm1]; rfl
  have hp2 : m2.pl = ⟨nmA, [2, 1]⟩ := by rw [hm2]; rfl
  have hr1 : m1.r = ⟨some ⟨b1, 0, none⟩, 2, 2, [1, 2]⟩ := by rw [hm1]
  have hr2 : m2.r = ⟨some ⟨b2, 0, none⟩, 2, 2, [2, 1]⟩ := by rw [hm2]
  refine G.rowNil (α := Int) encI 1 0 ?_
  refine G.rowSnoc (enc := encI) (sz := 1) (rs := List.replicate 0 (⟨none, 0, 0, []⟩ : RowG Int)) m1.r (tk := by rw [hr1]; show Take _ [prowsG encI 1 (List.replicate 0 (⟨none, 0, 0, []⟩ : RowG Int)), psl encI 1 (some ⟨b1, 0, none⟩) [1, 2]] _; infer_instance) ?_
  refine G.rowSnoc (enc := encI) (sz := 1) m2.r (tk := by rw [hr2]; show Take _ [prowsG encI 1 (List.replicate 0 (⟨none, 0, 0, []⟩ : RowG Int) ++ [m1.r]), psl encI 1 (some ⟨b2, 0, none⟩) [2, 1]] _; infer_instance) ?_
  have hok : RowsOk ([m1, m2].map MatD.r) := fun q hq => by
    simp only [List.map_cons, List.map_nil, List.mem_cons, List.not_mem_nil, or_false] at hq
    rcases hq with rfl | rfl
    · rw [hr1]; exact ⟨rfl, show 2 ≤ 4611686018427387904 by decide⟩
    · rw [hr2]; exact ⟨rfl, show 2 ≤ 4611686018427387904 by decide⟩
  have hu : upsI ([m1, m2].map MatD.pl) ls = [⟨nmA, [2, 1]⟩] := by rw [hls]; simp only [List.map_cons, List.map_nil, hp1, hp2]; exact wakes_ups nmA
  have hd : downsI ([m1, m2].map MatD.pl) (fun _ => true) ls = [] := by rw [hls]; simp only [List.map_cons, List.map_nil, hp1, hp2]; exact wakes_downs nmA a_toList
  have hlt : ∀ x ∈ ls, x.tags.length ≤ 1000000 := by rw [hls]; intro x hx; rw [List.mem_singleton] at hx; subst hx; decide
  have hmt : ∀ d ∈ [m1, m2], d.r.zs.length ≤ 1000000 := by
    intro d hd
    simp only [List.mem_cons, List.not_mem_nil, or_false] at hd
    rcases hd with rfl | rfl
    · rw [hr1]; exact (show 2 ≤ 1000000 by decide)
    · rw [hr2]; exact (show 2 ≤ 1000000 by decide)
  change G _ _ (prowsG encI 1 ([m1, m2].map MatD.r) :: _) _
  refine G.emp_in ?_
  repeat (first | refine g_endt ?_ | refine g_end ?_ | refine g_then ?_ | refine g_in_normal ?_ | refine g_then_ret ?_ | refine g_in_ret ?_ | refine g_then_exit ?_ | refine g_in_exit rfl ?_ | refine g_in_exit_ne (by decide) ?_ | refine g_seq ?_ | refine g_region ?_ | refine g_block ?_ | refine g_ret ?_ | refine g_return_n ?_ | refine g_exit ?_ | refine g_skip ?_)
  refine g_hideR fun Q_ hQ_ => ?_
  refine o_move ?_
  refine o_move ?_
  refine o_call (OfM_spec (some ⟨b3, 0, none⟩) 2 2) rfl rfl ?_
  rintro _ _ ⟨b4, rfl, rfl⟩
  refine shutOfX b4 (some ⟨b3, 0, none⟩) 2 2 [m1, m2] ?_
  refine o_call (Diff14_spec s 5 2 ls (by decide) hlt 50 33 [.pointer (some ⟨b4, 0, none⟩)] [] [m1, m2] hok (show 2 ≤ 1000000 by decide) hmt (OfX b4 (some ⟨b3, 0, none⟩) 2 2 [m1, m2]) emp (OfX_iter b4 (some ⟨b3, 0, none⟩) 2 2 [m1, m2] rfl (by decide)) (fun _ => true) wakes14a_spec hu hd) rfl rfl ?_
  rintro _ _ ⟨S1, c1, S2, c2, rfl, rfl⟩
  refine o_move ?_
  refine o_extract rfl rfl ?_
  refine o_extract rfl rfl ?_
  refine o_assign ?_
  refine o_assign ?_
  refine g_end (G.imp (hQ_ .normal _) ?_)
  clear hQ_ Q_
  try refine g_then ?_
  refine openUp S1 [⟨nmA, [2, 1]⟩] fun mds h1 h2 => ?_
  obtain ⟨d, rfl⟩ : ∃ d, mds = [d] := by
    have e := congrArg List.length h1
    rw [List.length_map] at e
    exact List.length_eq_one_iff.1 e
  have hdp : d.pl = ⟨nmA, [2, 1]⟩ := by simpa using h1
  have hdz : d.r.zs = [2, 1] := congrArg MatP.tags hdp
  have hdl : d.r.len = 2 := by have := (h2 d.r (by simp)).1; rw [hdz] at this; exact this.symm
  refine G.bopen (ys := [d]) (f := oM) d [] (List.Perm.refl _) ?_
  repeat (first | refine g_endt ?_ | refine g_end ?_ | refine g_then ?_ | refine g_in_normal ?_ | refine g_then_ret ?_ | refine g_in_ret ?_ | refine g_then_exit ?_ | refine g_in_exit rfl ?_ | refine g_in_exit_ne (by decide) ?_ | refine g_seq ?_ | refine g_region ?_ | refine g_block ?_ | refine g_ret ?_ | refine g_return_n ?_ | refine g_exit ?_ | refine g_skip ?_)
  refine g_hideR fun Q_ hQ_ => ?_
  refine o_move ?_
  refine o_len rfl rfl ?_
  refine o_eqlT (t := true) rfl rfl rfl ?_
  refine o_move ?_
  first | (refine o_want rfl rfl rfl rfl rfl ?_; refine o_move ?_) | refine o_unwanted rfl rfl rfl rfl rfl ?_ | refine o_undef rfl rfl rfl ?_
  refine o_want rfl rfl rfl rfl rfl (o_indexR (ys := [d]) (i := 0) rfl rfl rfl Nat.one_pos rfl rfl ?_)
  refine o_want rfl rfl rfl rfl rfl (o_fieldR (ys := [d]) rfl Nat.one_pos ?_)
  refine o_want rfl rfl rfl rfl rfl (o_loadE1 (ys := [d]) (i := 0) (off := 1) (v := .slice d.r.a d.r.len d.r.cap) rfl rfl rfl ?_)
  first | (refine o_want rfl rfl rfl rfl rfl ?_; refine o_len rfl rfl ?_) | refine o_unwanted rfl rfl rfl rfl rfl ?_ | refine o_undef rfl rfl rfl ?_
  refine o_want rfl rfl rfl rfl rfl (o_eqlT (t := true) rfl rfl (by rw [hdl]; rfl) ?_)
  first | refine o_pick_t rfl rfl ?_ | refine o_pick_f rfl rfl ?_
  refine o_move ?_
  first | (refine o_want rfl rfl rfl rfl rfl ?_; refine o_move ?_) | refine o_unwanted rfl rfl rfl rfl rfl ?_ | refine o_undef rfl rfl rfl ?_
  refine o_want rfl rfl rfl rfl rfl (o_indexR (ys := [d]) (i := 0) rfl rfl rfl Nat.one_pos rfl rfl ?_)
  refine o_want rfl rfl rfl rfl rfl (o_fieldR (ys := [d]) rfl Nat.one_pos ?_)
  refine o_want rfl rfl rfl rfl rfl (o_loadE1 (ys := [d]) (i := 0) (off := 1) (v := .slice d.r.a d.r.len d.r.cap) rfl rfl rfl ?_)
  refine o_want rfl rfl rfl rfl rfl (o_indexR (ys := d.r.zs) (i := 0) rfl rfl rfl (by rw [hdz]; decide) (by rw [hdz, hdl]; rfl) rfl ?_)
  refine o_want rfl rfl rfl rfl rfl (o_loadE0 (ys := d.r.zs) (i := 0) (v := .int .i64 2) rfl (by rw [hdz]; rfl) rfl ?_)
  refine o_want rfl rfl rfl rfl rfl (o_eqlT (t := true) rfl rfl rfl ?_)
  first | refine o_pick_t rfl rfl ?_ | refine o_pick_f rfl rfl ?_
  refine o_move ?_
  first | (refine o_want rfl rfl rfl rfl rfl ?_; refine o_move ?_) | refine o_unwanted rfl rfl rfl rfl rfl ?_ | refine o_undef rfl rfl rfl ?_
  first | (refine o_want rfl rfl rfl rfl rfl ?_; refine o_len rfl rfl ?_) | refine o_unwanted rfl rfl rfl rfl rfl ?_ | refine o_undef rfl rfl rfl ?_
  refine o_want rfl rfl rfl rfl rfl (o_eqlT (t := true) rfl rfl rfl ?_)
  first | refine o_pick_t rfl rfl ?_ | refine o_pick_f rfl rfl ?_
  refine o_assign ?_
  refine g_end (G.imp (hQ_ .normal _) ?_)
  clear hQ_ Q_
  try refine g_then ?_
  repeat (first | refine g_endt ?_ | refine g_end ?_ | refine g_then ?_ | refine g_in_normal ?_ | refine g_then_ret ?_ | refine g_in_ret ?_ | refine g_then_exit ?_ | refine g_in_exit rfl ?_ | refine g_in_exit_ne (by decide) ?_ | refine g_seq ?_ | refine g_region ?_ | refine g_block ?_ | refine g_ret ?_ | refine g_return_n ?_ | refine g_exit ?_ | refine g_skip ?_)
  exact ret1 (K := []) rfl (resT (v := .bool true) rfl) ⟨rfl, rfl⟩
end Go.Proofs.Ytkglmhgehccmoaa
/- Whatever stands and stands no more, and a copy of it: the walks. -/
namespace Go.Proofs.Ytkglmhgehccmoaa
open Go Go.Sl
attribute [local irreducible] Exit.then Exit.inBlock Code.wpIn roundPost bodyPostM runL Ret Meets MeetsD Begin

theorem newRI {w0 : World} {A : SProp} {L M : List SProp} {Φ : World → Prop} (r : Nat) (room : Int) [tk : Take1 L (rI r room 1 none 0 0) M] (h : G w0 A (RefI r room 1 [] :: M) Φ) : G w0 A L Φ := by
  refine G.perm tk.perm ?_
  refine G.psl_nil (α := InstD) encID 5 ?_
  refine G.rowNil (α := Int) encI 1 0 ?_
  refine shutIl none [] [] rfl (fun _ h => nomatch h) (tk := (inferInstance : Take (prowsG encI 1 (List.replicate 0 (⟨none, 0, 0, []⟩ : RowG Int)) :: psl encID 5 none ([] : List InstD) :: rI r room 1 none 0 0 :: M) [psl encID 5 none ([] : List InstD), prowsG encI 1 (List.replicate 0 (⟨none, 0, 0, []⟩ : RowG Int))] _)) ?_
  exact shutRI r room 1 [] none 0 (n := 0) rfl (tk := (inferInstance : Take (IlP none [] :: rI r room 1 none 0 0 :: M) [rI r room 1 none 0 0, IlP none []] M)) h
theorem play14K_spec (s r : Nat) (room : Int) (k0 : Nat) {next : Int} {ls : List InstP} (h0 : InvI k0 (next, ls)) (hk0 : k0 ≤ 1000) (A : Option Addr) (n c : Nat) (ys : List ActD) (hl : ys.length = n) (hm : n ≤ 80) (hr : ∀ q ∈ ys, q.Ok) (hq20 : ∀ q ∈ ys, q.i.r.len ≤ 20 ∧ q.ns.len ≤ 20) {next' : Int} {ls' : List InstP} (hst : playI room (next, ls) ys = (next', ls')) :
    Ctr Try.prog 18 [.pointer (some ⟨s, 0, none⟩), .pointer (some ⟨r, 0, none⟩), .slice A n c] (StP s room next ls :: RefI r room next ls :: acK A ys) (fun v M => v = .bool true ∧ M = [StP s room next' ls', RefI r room next' ls']) :=
  play14_spec s r room k0 (next, ls) h0 hk0 A n c ys hl hm hr hq20 hst
end Go.Proofs.Ytkglmhgehccmoaa
/- The document's matches in order: put; is one among them. -/
namespace Go.Proofs.Ytkglmhgehccmoaa
open Go Go.Sl
attribute [local irreducible] Exit.then Exit.inBlock Code.wpIn roundPost bodyPostM runL Ret Meets MeetsD Begin

/-- Where one would stand, looked for from behind. -/
def PosM (l : List MatD) (e : MatD) (i : Nat) : Prop := i ≤ l.length ∧ (∀ (j : Nat) (y : MatD), i ≤ j → l[j]? = some y → 0 < y.cmp e) ∧ ∀ y, 0 < i → l[i - 1]? = some y → ¬ e.cmp y < 0
theorem PosM.find {l : List MatD} {e : MatD} {i : Nat} (hs : Srt MatD.cmp l) (h : PosM l e i) (hn : hasC MatD.cmp l e = false) : FindR MatD.cmp l e i false := by
  obtain ⟨h1, h2, h3⟩ := h
  refine ⟨h1, fun e => (by cases e), fun _ => ⟨fun j y hj hy => ?_, h2⟩⟩
  obtain ⟨z, hzz⟩ : ∃ z, l[i - 1]? = some z := ⟨_, List.getElem?_eq_getElem (by omega)⟩
  have h4 := h3 z (by omega) hzz
  have h5 : z.cmp e ≠ 0 := fun h0 => by
    have := List.any_eq_false.1 hn z (List.mem_of_getElem? hzz)
    exact this (by simpa using h0)
  have h6 := MatD.lin.swap e z
  by_cases e2 : j = i - 1
  · subst e2; rw [hzz] at hy; cases hy; omega
  · exact MatD.lin.trans y z e (hs j (i - 1) y z (by omega) hy hzz) (by omega)
end Go.Proofs.Ytkglmhgehccmoaa
/- The document's instantiations that stand: does one have a match's name and tags; plain law of Diff. -/
namespace Go.Proofs.Ytkglmhgehccmoaa
open Go Go.Sl
attribute [local irreducible] Exit.then Exit.inBlock Code.wpIn roundPost bodyPostM runL Ret Meets MeetsD Begin

/-! ### Plain -/
theorem hasC_allM (ms : List MatP) (m : MatP) : hasC MatP.cmp (allM ms) m = hasC MatP.cmp ms m := by
  unfold allM; rw [hasC_fold MatP.lin]; simp [hasC]
theorem mem_hasC {l : List MatP} {z : MatP} : hasC MatP.cmp l z = true ↔ z ∈ l := by
  unfold hasC
  rw [List.any_eq_true]
  constructor
  · rintro ⟨y, hy, e⟩
    have := MatP.cmp_zero (of_decide_eq_true e)
    subst this; exact hy
  · exact fun h => ⟨z, h, decide_eq_true (MatP.lin.refl z)⟩
/-! ### Walked -/
end Go.Proofs.Ytkglmhgehccmoaa
/- The document's instantiations that stand: Diff. -/
namespace Go.Proofs.Ytkglmhgehccmoaa
open Go Go.Sl
attribute [local irreducible] Exit.then Exit.inBlock Code.wpIn roundPost bodyPostM runL Ret Meets MeetsD Begin

end Go.Proofs.Ytkglmhgehccmoaa
/- Few matches, those with a name, a copy of them; the tags that are there. -/
namespace Go.Proofs.Ytkglmhgehccmoaa
open Go Go.Sl
attribute [local irreducible] Exit.then Exit.inBlock Code.wpIn roundPost bodyPostM runL Ret Meets MeetsD Begin

def darkQ (d : MatD) : Bool := decide (20 < d.r.len) || decide (50 < d.name.size)
def lightM (ms : List MatD) : Bool := !(decide (40 < ms.length) || ms.any darkQ)
theorem lightM_yes {ms : List MatD} (h : lightM ms = true) : ms.length ≤ 40 ∧ ∀ d ∈ ms, d.r.len ≤ 20 := by
  unfold lightM at h
  rw [Bool.not_eq_true', Bool.or_eq_false_iff, decide_eq_false_iff_not, List.any_eq_false] at h
  refine ⟨by omega, fun d hd => ?_⟩
  have := h.2 d hd
  unfold darkQ at this
  simp only [Bool.or_eq_true, decide_eq_true_eq, not_or] at this
  omega
set_option maxHeartbeats 1000000 in
theorem light14_spec (A : Option Addr) (n c : Nat) (ms : List MatD) (hl : ms.length = n) (hm : n ≤ 9223372036854775807) {b : Bool} (hb : lightM ms = b) : Ctr Try.prog 19 [.slice A n c] [psl MatD.enc 2 A ms] (fun v M => v = .bool b ∧ M = []) := by
  refine spec_of Try.func19 rfl Try.ntmps19 rfl fun w0 F => ?_
  -- hide
  -- ponder/ponderlaw14.light
  subst hb
  repeat (first | refine g_endt ?_ | refine g_end ?_ | refine g_then ?_ | refine g_in_normal ?_ | refine g_then_ret ?_ | refine g_in_ret ?_ | refine g_then_exit ?_ | refine g_in_exit rfl ?_ | refine g_in_exit_ne (by decide) ?_ | refine g_seq ?_ | refine g_region ?_ | refine g_block ?_ | refine g_ret ?_ | refine g_return_n ?_ | refine g_exit ?_ | refine g_skip ?_)
  refine g_hideR fun Q_ hQ_ => ?_
  refine o_assign ?_
  refine g_end (G.imp (hQ_ .normal _) ?_)
  clear hQ_ Q_
  try refine g_then ?_
  by_cases h1 : 40 < n
  · skip
    repeat (first | refine g_endt ?_ | refine g_end ?_ | refine g_then ?_ | refine g_in_normal ?_ | refine g_then_ret ?_ | refine g_in_ret ?_ | refine g_then_exit ?_ | refine g_in_exit rfl ?_ | refine g_in_exit_ne (by decide) ?_ | refine g_seq ?_ | refine g_region ?_ | refine g_block ?_ | refine g_ret ?_ | refine g_return_n ?_ | refine g_exit ?_ | refine g_skip ?_)
    refine g_hideR fun Q_ hQ_ => ?_
    refine o_move ?_
    refine o_len rfl rfl ?_
    refine o_gtrT (t := true) rfl rfl (decide_eq_true (by omega)) ?_
    refine g_end (G.imp (hQ_ .normal _) ?_)
    clear hQ_ Q_
    try refine g_then ?_
    first | refine g_seq (g_cond_t rfl (by first | rfl | (simp; done) | (simp; omega) | (simp; assumption)) ?_) | refine g_cond_t rfl (by first | rfl | (simp; done) | (simp; omega) | (simp; assumption)) ?_
    repeat (first | refine g_endt ?_ | refine g_end ?_ | refine g_then ?_ | refine g_in_normal ?_ | refine g_then_ret ?_ | refine g_in_ret ?_ | refine g_then_exit ?_ | refine g_in_exit rfl ?_ | refine g_in_exit_ne (by decide) ?_ | refine g_seq ?_ | refine g_region ?_ | refine g_block ?_ | refine g_ret ?_ | refine g_return_n ?_ | refine g_exit ?_ | refine g_skip ?_)
    refine g_hideR fun Q_ hQ_ => ?_
    refine o_assign ?_
    refine g_end (G.imp (hQ_ .normal _) ?_)
    clear hQ_ Q_
    try refine g_then ?_
    repeat (first | refine g_endt ?_ | refine g_end ?_ | refine g_then ?_ | refine g_in_normal ?_ | refine g_then_ret ?_ | refine g_in_ret ?_ | refine g_then_exit ?_ | refine g_in_exit rfl ?_ | refine g_in_exit_ne (by decide) ?_ | refine g_seq ?_ | refine g_region ?_ | refine g_block ?_ | refine g_ret ?_ | refine g_return_n ?_ | refine g_exit ?_ | refine g_skip ?_)
    have : lightM ms = false := by unfold lightM; rw [decide_eq_true (by omega)]; rfl
    exact ret1 (K := []) rfl (resT (v := .bool false) rfl) ⟨by rw [this], rfl⟩
  repeat (first | refine g_endt ?_ | refine g_end ?_ | refine g_then ?_ | refine g_in_normal ?_ | refine g_then_ret ?_ | refine g_in_ret ?_ | refine g_then_exit ?_ | refine g_in_exit rfl ?_ | refine g_in_exit_ne (by decide) ?_ | refine g_seq ?_ | refine g_region ?_ | refine g_block ?_ | refine g_ret ?_ | refine g_return_n ?_ | refine g_exit ?_ | refine g_skip ?_)
  refine g_hideR fun Q_ hQ_ => ?_
  refine o_move ?_
  refine o_len rfl rfl ?_
  refine o_gtrT (t := false) rfl rfl (decide_eq_false (by omega)) ?_
  refine g_end (G.imp (hQ_ .normal _) ?_)
  clear hQ_ Q_
  try refine g_then ?_
  first | refine g_seq (g_cond_f rfl (by first | rfl | (simp; done) | (simp; omega) | (simp; assumption)) ?_) | refine g_cond_f rfl (by first | rfl | (simp; done) | (simp; omega) | (simp; assumption)) ?_
  repeat (first | refine g_endt ?_ | refine g_end ?_ | refine g_then ?_ | refine g_in_normal ?_ | refine g_then_ret ?_ | refine g_in_ret ?_ | refine g_then_exit ?_ | refine g_in_exit rfl ?_ | refine g_in_exit_ne (by decide) ?_ | refine g_seq ?_ | refine g_region ?_ | refine g_block ?_ | refine g_ret ?_ | refine g_return_n ?_ | refine g_exit ?_ | refine g_skip ?_)
  refine g_hideR fun Q_ hQ_ => ?_
  refine o_assign ?_
  refine g_end (G.imp (hQ_ .normal _) ?_)
  clear hQ_ Q_
  try refine g_then ?_
  repeat (first | refine g_endt ?_ | refine g_end ?_ | refine g_then ?_ | refine g_in_normal ?_ | refine g_then_ret ?_ | refine g_in_ret ?_ | refine g_then_exit ?_ | refine g_in_exit rfl ?_ | refine g_in_exit_ne (by decide) ?_ | refine g_seq ?_ | refine g_region ?_ | refine g_block ?_ | refine g_ret ?_ | refine g_return_n ?_ | refine g_exit ?_ | refine g_skip ?_)
  refine g_loop (σ := {i : Nat // i ≤ n ∧ ∀ q ∈ ms.take i, ¬ darkQ q = true}) (S := fun i => [(0, .slice A n c), (3, .int .i64 (i.1 : Int))]) (H := fun _ => [psl MatD.enc 2 A ms]) (μ := fun i => n - i.1) (s0 := ⟨0, Nat.zero_le _, by simp⟩) (Sat.mem ⟨rfl, rfl, trivial⟩) ?_
  rintro ⟨i, hi, hlow⟩ ρ'
  dsimp only at hi hlow ⊢
  by_cases hin : i < n
  · skip
    repeat (first | refine g_endt ?_ | refine g_end ?_ | refine g_then ?_ | refine g_in_normal ?_ | refine g_then_ret ?_ | refine g_in_ret ?_ | refine g_then_exit ?_ | refine g_in_exit rfl ?_ | refine g_in_exit_ne (by decide) ?_ | refine g_seq ?_ | refine g_region ?_ | refine g_block ?_ | refine g_ret ?_ | refine g_return_n ?_ | refine g_exit ?_ | refine g_skip ?_)
    refine g_hideR fun Q_ hQ_ => ?_
    refine o_move ?_
    refine o_move ?_
    refine o_len rfl rfl ?_
    refine o_lssT (t := true) rfl rfl (decide_eq_true (by omega)) ?_
    refine g_end (G.imp (hQ_ .normal _) ?_)
    clear hQ_ Q_
    try refine g_then ?_
    first | refine g_seq (g_cond_t rfl (by first | rfl | (simp; done) | (simp; omega) | (simp; assumption)) ?_) | refine g_cond_t rfl (by first | rfl | (simp; done) | (simp; omega) | (simp; assumption)) ?_
    repeat (first | refine g_endt ?_ | refine g_end ?_ | refine g_then ?_ | refine g_in_normal ?_ | refine g_then_ret ?_ | refine g_in_ret ?_ | refine g_then_exit ?_ | refine g_in_exit rfl ?_ | refine g_in_exit_ne (by decide) ?_ | refine g_seq ?_ | refine g_region ?_ | refine g_block ?_ | refine g_ret ?_ | refine g_return_n ?_ | refine g_exit ?_ | refine g_skip ?_)
    obtain ⟨q, hq⟩ : ∃ q, ms[i]? = some q := ⟨_, List.getElem?_eq_getElem (by omega)⟩
    have hqm := List.mem_of_getElem? hq
    have hbad : darkQ q = true → lightM ms = false := fun h => by
      unfold lightM
      rw [Bool.not_eq_false', Bool.or_eq_true, List.any_eq_true]
      exact .inr ⟨q, hqm, h⟩
    have hgood : ¬ darkQ q = true → ∀ y ∈ ms.take (i + 1), ¬ darkQ y = true := fun h y hy => by
      rw [List.take_add_one, hq] at hy
      rcases List.mem_append.1 hy with hy | hy
      · exact hlow y hy
      · simp at hy; subst hy; exact h
    by_cases a1 : 20 < q.r.len
    · skip
      repeat (first | refine g_endt ?_ | refine g_end ?_ | refine g_then ?_ | refine g_in_normal ?_ | refine g_then_ret ?_ | refine g_in_ret ?_ | refine g_then_exit ?_ | refine g_in_exit rfl ?_ | refine g_in_exit_ne (by decide) ?_ | refine g_seq ?_ | refine g_region ?_ | refine g_block ?_ | refine g_ret ?_ | refine g_return_n ?_ | refine g_exit ?_ | refine g_skip ?_)
      refine g_hideR fun Q_ hQ_ => ?_
      refine o_move ?_
      refine o_move ?_
      refine o_indexR (ys := ms) (i := i) rfl rfl rfl (by omega) hl rfl ?_
      refine o_fieldR (ys := ms) rfl (by omega) ?_
      refine o_loadE1 (ys := ms) (i := i) (off := 1) (v := .slice q.r.a q.r.len q.r.cap) rfl hq rfl ?_
      refine o_len rfl rfl ?_
      refine o_gtrT (t := true) rfl rfl (decide_eq_true (by omega)) ?_
      refine o_move ?_
      first | (refine o_want rfl rfl rfl rfl rfl ?_; refine o_move ?_) | refine o_unwanted rfl rfl rfl rfl rfl ?_ | refine o_undef rfl rfl rfl ?_
      first | (refine o_want rfl rfl rfl rfl rfl ?_; refine o_move ?_) | refine o_unwanted rfl rfl rfl rfl rfl ?_ | refine o_undef rfl rfl rfl ?_
      first | refine o_unwanted rfl rfl rfl rfl rfl ?_ | refine o_undef rfl rfl rfl ?_
      first | refine o_unwanted rfl rfl rfl rfl rfl ?_ | refine o_undef rfl rfl rfl ?_
      first | refine o_unwanted rfl rfl rfl rfl rfl ?_ | refine o_undef rfl rfl rfl ?_
      first | refine o_unwanted rfl rfl rfl rfl rfl ?_ | refine o_undef rfl rfl rfl ?_
      first | refine o_unwanted rfl rfl rfl rfl rfl ?_ | refine o_undef rfl rfl rfl ?_
      first | refine o_pick_t rfl rfl ?_ | refine o_pick_f rfl rfl ?_
      refine g_end (G.imp (hQ_ .normal _) ?_)
      clear hQ_ Q_
      try refine g_then ?_
      first | refine g_seq (g_cond_t rfl (by first | rfl | (simp; done) | (simp; omega) | (simp; assumption)) ?_) | refine g_cond_t rfl (by first | rfl | (simp; done) | (simp; omega) | (simp; assumption)) ?_
      repeat (first | refine g_endt ?_ | refine g_end ?_ | refine g_then ?_ | refine g_in_normal ?_ | refine g_then_ret ?_ | refine g_in_ret ?_ | refine g_then_exit ?_ | refine g_in_exit rfl ?_ | refine g_in_exit_ne (by decide) ?_ | refine g_seq ?_ | refine g_region ?_ | refine g_block ?_ | refine g_ret ?_ | refine g_return_n ?_ | refine g_exit ?_ | refine g_skip ?_)
      refine g_hideR fun Q_ hQ_ => ?_
      refine o_assign ?_
      refine g_end (G.imp (hQ_ .normal _) ?_)
      clear hQ_ Q_
      try refine g_then ?_
      repeat (first | refine g_endt ?_ | refine g_end ?_ | refine g_then ?_ | refine g_in_normal ?_ | refine g_then_ret ?_ | refine g_in_ret ?_ | refine g_then_exit ?_ | refine g_in_exit rfl ?_ | refine g_in_exit_ne (by decide) ?_ | refine g_seq ?_ | refine g_region ?_ | refine g_block ?_ | refine g_ret ?_ | refine g_return_n ?_ | refine g_exit ?_ | refine g_skip ?_)
      exact ret1 (K := []) rfl (resT (v := .bool false) rfl) ⟨by rw [hbad (by unfold darkQ; rw [decide_eq_true a1]; rfl)], rfl⟩
    by_cases a2 : 50 < q.name.size
    · skip
      repeat (first | refine g_endt ?_ | refine g_end ?_ | refine g_then ?_ | refine g_in_normal ?_ | refine g_then_ret ?_ | refine g_in_ret ?_ | refine g_then_exit ?_ | refine g_in_exit rfl ?_ | refine g_in_exit_ne (by decide) ?_ | refine g_seq ?_ | refine g_region ?_ | refine g_block ?_ | refine g_ret ?_ | refine g_return_n ?_ | refine g_exit ?_ | refine g_skip ?_)
      refine g_hideR fun Q_ hQ_ => ?_
      refine o_move ?_
      refine o_move ?_
      refine o_indexR (ys := ms) (i := i) rfl rfl rfl (by omega) hl rfl ?_
      refine o_fieldR (ys := ms) rfl (by omega) ?_
      refine o_loadE1 (ys := ms) (i := i) (off := 1) (v := .slice q.r.a q.r.len q.r.cap) rfl hq rfl ?_
      refine o_len rfl rfl ?_
      refine o_gtrT (t := false) rfl rfl (decide_eq_false (by omega)) ?_
      refine o_move ?_
      first | (refine o_want rfl rfl rfl rfl rfl ?_; refine o_move ?_) | refine o_unwanted rfl rfl rfl rfl rfl ?_ | refine o_undef rfl rfl rfl ?_
      first | (refine o_want rfl rfl rfl rfl rfl ?_; refine o_move ?_) | refine o_unwanted rfl rfl rfl rfl rfl ?_ | refine o_undef rfl rfl rfl ?_
      refine o_want rfl rfl rfl rfl rfl (o_indexR (ys := ms) (i := i) rfl rfl rfl (by omega) hl rfl ?_)
      refine o_want rfl rfl rfl rfl rfl (o_fieldR (ys := ms) rfl (by omega) ?_)
      refine o_want rfl rfl rfl rfl rfl (o_loadE1 (ys := ms) (i := i) (off := 0) (v := .string q.name) rfl hq rfl ?_)
      refine o_want rfl rfl rfl rfl rfl (o_slen rfl rfl (by kernel_rfl) ?_)
      refine o_want rfl rfl rfl rfl rfl (o_gtrT (t := true) rfl rfl (decide_eq_true (by omega)) ?_)
      first | refine o_pick_t rfl rfl ?_ | refine o_pick_f rfl rfl ?_
      refine g_end (G.imp (hQ_ .normal _) ?_)
      clear hQ_ Q_
      try refine g_then ?_
      first | refine g_seq (g_cond_t rfl (by first | rfl | (simp; done) | (simp; omega) | (simp; assumption)) ?_) | refine g_cond_t rfl (by first | rfl | (simp; done) | (simp; omega) | (simp; assumption)) ?_
      repeat (first | refine g_endt ?_ | refine g_end ?_ | refine g_then ?_ | refine g_in_normal ?_ | refine g_then_ret ?_ | refine g_in_ret ?_ | refine g_then_exit ?_ | refine g_in_exit rfl ?_ | refine g_in_exit_ne (by decide) ?_ | refine g_seq ?_ | refine g_region ?_ | refine g_block ?_ | refine g_ret ?_ | refine g_return_n ?_ | refine g_exit ?_ | refine g_skip ?_)
      refine g_hideR fun Q_ hQ_ => ?_
      refine o_assign ?_
      refine g_end (G.imp (hQ_ .normal _) ?_)
      clear hQ_ Q_
      try refine g_then ?_
      repeat (first | refine g_endt ?_ | refine g_end ?_ | refine g_then ?_ | refine g_in_normal ?_ | refine g_then_ret ?_ | refine g_in_ret ?_ | refine g_then_exit ?_ | refine g_in_exit rfl ?_ | refine g_in_exit_ne (by decide) ?_ | refine g_seq ?_ | refine g_region ?_ | refine g_block ?_ | refine g_ret ?_ | refine g_return_n ?_ | refine g_exit ?_ | refine g_skip ?_)
      exact ret1 (K := []) rfl (resT (v := .bool false) rfl) ⟨by rw [hbad (by unfold darkQ; rw [decide_eq_true a2, Bool.or_true])], rfl⟩
    · skip
      repeat (first | refine g_endt ?_ | refine g_end ?_ | refine g_then ?_ | refine g_in_normal ?_ | refine g_then_ret ?_ | refine g_in_ret ?_ | refine g_then_exit ?_ | refine g_in_exit rfl ?_ | refine g_in_exit_ne (by decide) ?_ | refine g_seq ?_ | refine g_region ?_ | refine g_block ?_ | refine g_ret ?_ | refine g_return_n ?_ | refine g_exit ?_ | refine g_skip ?_)
      refine g_hideR fun Q_ hQ_ => ?_
      refine o_move ?_
      refine o_move ?_
      refine o_indexR (ys := ms) (i := i) rfl rfl rfl (by omega) hl rfl ?_
      refine o_fieldR (ys := ms) rfl (by omega) ?_
      refine o_loadE1 (ys := ms) (i := i) (off := 1) (v := .slice q.r.a q.r.len q.r.cap) rfl hq rfl ?_
      refine o_len rfl rfl ?_
      refine o_gtrT (t := false) rfl rfl (decide_eq_false (by omega)) ?_
      refine o_move ?_
      first | (refine o_want rfl rfl rfl rfl rfl ?_; refine o_move ?_) | refine o_unwanted rfl rfl rfl rfl rfl ?_ | refine o_undef rfl rfl rfl ?_
      first | (refine o_want rfl rfl rfl rfl rfl ?_; refine o_move ?_) | refine o_unwanted rfl rfl rfl rfl rfl ?_ | refine o_undef rfl rfl rfl ?_
      refine o_want rfl rfl rfl rfl rfl (o_indexR (ys := ms) (i := i) rfl rfl rfl (by omega) hl rfl ?_)
      refine o_want rfl rfl rfl rfl rfl (o_fieldR (ys := ms) rfl (by omega) ?_)
      refine o_want rfl rfl rfl rfl rfl (o_loadE1 (ys := ms) (i := i) (off := 0) (v := .string q.name) rfl hq rfl ?_)
      refine o_want rfl rfl rfl rfl rfl (o_slen rfl rfl (by kernel_rfl) ?_)
      refine o_want rfl rfl rfl rfl rfl (o_gtrT (t := false) rfl rfl (decide_eq_false (by omega)) ?_)
      first | refine o_pick_t rfl rfl ?_ | refine o_pick_f rfl rfl ?_
      refine g_end (G.imp (hQ_ .normal _) ?_)
      clear hQ_ Q_
      try refine g_then ?_
      first | refine g_seq (g_cond_f rfl (by first | rfl | (simp; done) | (simp; omega) | (simp; assumption)) ?_) | refine g_cond_f rfl (by first | rfl | (simp; done) | (simp; omega) | (simp; assumption)) ?_
      repeat (first | refine g_endt ?_ | refine g_end ?_ | refine g_then ?_ | refine g_in_normal ?_ | refine g_then_ret ?_ | refine g_in_ret ?_ | refine g_then_exit ?_ | refine g_in_exit rfl ?_ | refine g_in_exit_ne (by decide) ?_ | refine g_seq ?_ | refine g_region ?_ | refine g_block ?_ | refine g_ret ?_ | refine g_return_n ?_ | refine g_exit ?_ | refine g_skip ?_)
      repeat (first | refine g_endt ?_ | refine g_end ?_ | refine g_then ?_ | refine g_in_normal ?_ | refine g_then_ret ?_ | refine g_in_ret ?_ | refine g_then_exit ?_ | refine g_in_exit rfl ?_ | refine g_in_exit_ne (by decide) ?_ | refine g_seq ?_ | refine g_region ?_ | refine g_block ?_ | refine g_ret ?_ | refine g_return_n ?_ | refine g_exit ?_ | refine g_skip ?_)
      refine g_hideR fun Q_ hQ_ => ?_
      refine o_move ?_
      refine o_add (c := ((i + 1 : Nat) : Int)) rfl rfl (by omega) (by omega) (by omega) ?_
      refine o_assign ?_
      refine g_end (G.imp (hQ_ .normal _) ?_)
      clear hQ_ Q_
      try refine g_then ?_
      repeat (first | refine g_endt ?_ | refine g_end ?_ | refine g_then ?_ | refine g_in_normal ?_ | refine g_then_ret ?_ | refine g_in_ret ?_ | refine g_then_exit ?_ | refine g_in_exit rfl ?_ | refine g_in_exit_ne (by decide) ?_ | refine g_seq ?_ | refine g_region ?_ | refine g_block ?_ | refine g_ret ?_ | refine g_return_n ?_ | refine g_exit ?_ | refine g_skip ?_)
      exact g_meets ⟨i + 1, hin, hgood (by unfold darkQ; rw [decide_eq_false a1, decide_eq_false a2]; decide)⟩ (by show n - (i + 1) < n - i; omega) (Sat.mem ⟨rfl, rfl, trivial⟩)
  · skip
    repeat (first | refine g_endt ?_ | refine g_end ?_ | refine g_then ?_ | refine g_in_normal ?_ | refine g_then_ret ?_ | refine g_in_ret ?_ | refine g_then_exit ?_ | refine g_in_exit rfl ?_ | refine g_in_exit_ne (by decide) ?_ | refine g_seq ?_ | refine g_region ?_ | refine g_block ?_ | refine g_ret ?_ | refine g_return_n ?_ | refine g_exit ?_ | refine g_skip ?_)
    refine g_hideR fun Q_ hQ_ => ?_
    refine o_move ?_
    refine o_move ?_
    refine o_len rfl rfl ?_
    refine o_lssT (t := false) rfl rfl (decide_eq_false (by omega)) ?_
    refine g_end (G.imp (hQ_ .normal _) ?_)
    clear hQ_ Q_
    try refine g_then ?_
    first | refine g_seq (g_cond_f rfl (by first | rfl | (simp; done) | (simp; omega) | (simp; assumption)) ?_) | refine g_cond_f rfl (by first | rfl | (simp; done) | (simp; omega) | (simp; assumption)) ?_
    repeat (first | refine g_endt ?_ | refine g_end ?_ | refine g_then ?_ | refine g_in_normal ?_ | refine g_then_ret ?_ | refine g_in_ret ?_ | refine g_then_exit ?_ | refine g_in_exit rfl ?_ | refine g_in_exit_ne (by decide) ?_ | refine g_seq ?_ | refine g_region ?_ | refine g_block ?_ | refine g_ret ?_ | refine g_return_n ?_ | refine g_exit ?_ | refine g_skip ?_)
    repeat (first | refine g_endt ?_ | refine g_end ?_ | refine g_then ?_ | refine g_in_normal ?_ | refine g_then_ret ?_ | refine g_in_ret ?_ | refine g_then_exit ?_ | refine g_in_exit rfl ?_ | refine g_in_exit_ne (by decide) ?_ | refine g_seq ?_ | refine g_region ?_ | refine g_block ?_ | refine g_ret ?_ | refine g_return_n ?_ | refine g_exit ?_ | refine g_skip ?_)
    refine g_hideR fun Q_ hQ_ => ?_
    refine o_assign ?_
    refine g_end (G.imp (hQ_ .normal _) ?_)
    clear hQ_ Q_
    try refine g_then ?_
    repeat (first | refine g_endt ?_ | refine g_end ?_ | refine g_then ?_ | refine g_in_normal ?_ | refine g_then_ret ?_ | refine g_in_ret ?_ | refine g_then_exit ?_ | refine g_in_exit rfl ?_ | refine g_in_exit_ne (by decide) ?_ | refine g_seq ?_ | refine g_region ?_ | refine g_block ?_ | refine g_ret ?_ | refine g_return_n ?_ | refine g_exit ?_ | refine g_skip ?_)
    rw [List.take_of_length_le (by omega)] at hlow
    have : lightM ms = true := by
      unfold lightM
      rw [Bool.not_eq_true', Bool.or_eq_false_iff, decide_eq_false_iff_not, List.any_eq_false]
      exact ⟨by omega, hlow⟩
    exact ret1 (K := []) rfl (resT (v := .bool true) rfl) ⟨by rw [this], rfl⟩
/-! ### Those with a name -/
def namedD (ms : List MatD) : List MatD := ms.filter fun d => !decide (d.name.toList = [])
theorem namedD_take {ms : List MatD} {i : Nat} {d : MatD} (h : ms[i]? = some d) : namedD (ms.take (i + 1)) = namedD (ms.take i) ++ if decide (d.name.toList = []) = true then [] else [d] := by
  unfold namedD
  rw [List.take_add_one, h, List.filter_append]
  cases e : decide (d.name.toList = []) <;> simp [e]
set_option maxHeartbeats 1000000 in
theorem named14_spec (A : Option Addr) (n c : Nat) (ms : List MatD) (hl : ms.length = n) (hm : n ≤ 100000) {os : List MatD} (ho : namedD ms = os) : Ctr Try.prog 21 [.slice A n c] [psl MatD.enc 2 A ms] (fun v M => ∃ S e, v = .slice S os.length e ∧ M = [psl MatD.enc 2 S os]) := by
  refine spec_of Try.func21 rfl Try.ntmps21 rfl fun w0 F => ?_
  -- hide
  -- ponder/ponderlaw14.named
  refine G.nil_slice (α := MatD) 52 MatD.enc 2 ?_
  repeat (first | refine g_endt ?_ | refine g_end ?_ | refine g_then ?_ | refine g_in_normal ?_ | refine g_then_ret ?_ | refine g_in_ret ?_ | refine g_then_exit ?_ | refine g_in_exit rfl ?_ | refine g_in_exit_ne (by decide) ?_ | refine g_seq ?_ | refine g_region ?_ | refine g_block ?_ | refine g_ret ?_ | refine g_return_n ?_ | refine g_exit ?_ | refine g_skip ?_)
  refine g_hideR fun Q_ hQ_ => ?_
  refine o_assign ?_
  refine g_end (G.imp (hQ_ .normal _) ?_)
  clear hQ_ Q_
  try refine g_then ?_
  repeat (first | refine g_endt ?_ | refine g_end ?_ | refine g_then ?_ | refine g_in_normal ?_ | refine g_then_ret ?_ | refine g_in_ret ?_ | refine g_then_exit ?_ | refine g_in_exit rfl ?_ | refine g_in_exit_ne (by decide) ?_ | refine g_seq ?_ | refine g_region ?_ | refine g_block ?_ | refine g_ret ?_ | refine g_return_n ?_ | refine g_exit ?_ | refine g_skip ?_)
  refine g_hideR fun Q_ hQ_ => ?_
  refine o_assign ?_
  refine g_end (G.imp (hQ_ .normal _) ?_)
  clear hQ_ Q_
  try refine g_then ?_
  repeat (first | refine g_endt ?_ | refine g_end ?_ | refine g_then ?_ | refine g_in_normal ?_ | refine g_then_ret ?_ | refine g_in_ret ?_ | refine g_then_exit ?_ | refine g_in_exit rfl ?_ | refine g_in_exit_ne (by decide) ?_ | refine g_seq ?_ | refine g_region ?_ | refine g_block ?_ | refine g_ret ?_ | refine g_return_n ?_ | refine g_exit ?_ | refine g_skip ?_)
  refine g_hideR fun Q_ hQ_ => ?_
  refine o_assign ?_
  refine g_end (G.imp (hQ_ .normal _) ?_)
  clear hQ_ Q_
  try refine g_then ?_
  repeat (first | refine g_endt ?_ | refine g_end ?_ | refine g_then ?_ | refine g_in_normal ?_ | refine g_then_ret ?_ | refine g_in_ret ?_ | refine g_then_exit ?_ | refine g_in_exit rfl ?_ | refine g_in_exit_ne (by decide) ?_ | refine g_seq ?_ | refine g_region ?_ | refine g_block ?_ | refine g_ret ?_ | refine g_return_n ?_ | refine g_exit ?_ | refine g_skip ?_)
  refine g_loop (σ := {z : (Nat × List MatD) × Option Addr × Nat // z.1.1 ≤ n ∧ namedD (ms.take z.1.1) = z.1.2 ∧ z.1.2.length ≤ z.1.1}) (S := fun z => [(0, .slice A n c), (3, .slice z.1.2.1 z.1.1.2.length z.1.2.2), (4, .int .i64 (z.1.1.1 : Int))]) (H := fun z => [psl MatD.enc 2 A ms, osl 52 MatD.enc 2 z.1.2.1 z.1.2.2 z.1.1.2]) (μ := fun z => n - z.1.1.1) (s0 := ⟨((0, []), none, 0), Nat.zero_le _, rfl, Nat.le_refl _⟩) (Sat.mem ⟨rfl, rfl, rfl, trivial⟩) ?_
  rintro ⟨⟨⟨i, cs⟩, S, e⟩, hi, hcs, hcl⟩ ρ'
  dsimp only at hi hcs hcl ⊢
  by_cases hin : i < n
  · skip
    repeat (first | refine g_endt ?_ | refine g_end ?_ | refine g_then ?_ | refine g_in_normal ?_ | refine g_then_ret ?_ | refine g_in_ret ?_ | refine g_then_exit ?_ | refine g_in_exit rfl ?_ | refine g_in_exit_ne (by decide) ?_ | refine g_seq ?_ | refine g_region ?_ | refine g_block ?_ | refine g_ret ?_ | refine g_return_n ?_ | refine g_exit ?_ | refine g_skip ?_)
    refine g_hideR fun Q_ hQ_ => ?_
    refine o_move ?_
    refine o_move ?_
    refine o_len rfl rfl ?_
    refine o_lssT (t := true) rfl rfl (decide_eq_true (by omega)) ?_
    refine g_end (G.imp (hQ_ .normal _) ?_)
    clear hQ_ Q_
    try refine g_then ?_
    first | refine g_seq (g_cond_t rfl (by first | rfl | (simp; done) | (simp; omega) | (simp; assumption)) ?_) | refine g_cond_t rfl (by first | rfl | (simp; done) | (simp; omega) | (simp; assumption)) ?_
    repeat (first | refine g_endt ?_ | refine g_end ?_ | refine g_then ?_ | refine g_in_normal ?_ | refine g_then_ret ?_ | refine g_in_ret ?_ | refine g_then_exit ?_ | refine g_in_exit rfl ?_ | refine g_in_exit_ne (by decide) ?_ | refine g_seq ?_ | refine g_region ?_ | refine g_block ?_ | refine g_ret ?_ | refine g_return_n ?_ | refine g_exit ?_ | refine g_skip ?_)
    obtain ⟨q, hq⟩ : ∃ q, ms[i]? = some q := ⟨_, List.getElem?_eq_getElem (by omega)⟩
    have hnx := namedD_take hq
    rw [hcs] at hnx
    by_cases hnm : q.name.toList = []
    · rw [if_pos (decide_eq_true hnm), List.append_nil] at hnx
      repeat (first | refine g_endt ?_ | refine g_end ?_ | refine g_then ?_ | refine g_in_normal ?_ | refine g_then_ret ?_ | refine g_in_ret ?_ | refine g_then_exit ?_ | refine g_in_exit rfl ?_ | refine g_in_exit_ne (by decide) ?_ | refine g_seq ?_ | refine g_region ?_ | refine g_block ?_ | refine g_ret ?_ | refine g_return_n ?_ | refine g_exit ?_ | refine g_skip ?_)
      refine g_hideR fun Q_ hQ_ => ?_
      refine o_move ?_
      refine o_move ?_
      refine o_indexR (ys := ms) (i := i) rfl rfl rfl (by omega) hl rfl ?_
      refine o_fieldR (ys := ms) rfl (by omega) ?_
      refine o_loadE1 (ys := ms) (i := i) (off := 0) (v := .string q.name) rfl hq rfl ?_
      refine o_sneqT (r := false) rfl rfl (by rw [hnm, empty_toList]; rfl) ?_
      refine g_end (G.imp (hQ_ .normal _) ?_)
      clear hQ_ Q_
      try refine g_then ?_
      first | refine g_seq (g_cond_f rfl (by first | rfl | (simp; done) | (simp; omega) | (simp; assumption)) ?_) | refine g_cond_f rfl (by first | rfl | (simp; done) | (simp; omega) | (simp; assumption)) ?_
      repeat (first | refine g_endt ?_ | refine g_end ?_ | refine g_then ?_ | refine g_in_normal ?_ | refine g_then_ret ?_ | refine g_in_ret ?_ | refine g_then_exit ?_ | refine g_in_exit rfl ?_ | refine g_in_exit_ne (by decide) ?_ | refine g_seq ?_ | refine g_region ?_ | refine g_block ?_ | refine g_ret ?_ | refine g_return_n ?_ | refine g_exit ?_ | refine g_skip ?_)
      repeat (first | refine g_endt ?_ | refine g_end ?_ | refine g_then ?_ | refine g_in_normal ?_ | refine g_then_ret ?_ | refine g_in_ret ?_ | refine g_then_exit ?_ | refine g_in_exit rfl ?_ | refine g_in_exit_ne (by decide) ?_ | refine g_seq ?_ | refine g_region ?_ | refine g_block ?_ | refine g_ret ?_ | refine g_return_n ?_ | refine g_exit ?_ | refine g_skip ?_)
      refine g_hideR fun Q_ hQ_ => ?_
      refine o_move ?_
      refine o_add (c := ((i + 1 : Nat) : Int)) rfl rfl (by omega) (by omega) (by omega) ?_
      refine o_assign ?_
      refine g_end (G.imp (hQ_ .normal _) ?_)
      clear hQ_ Q_
      try refine g_then ?_
      repeat (first | refine g_endt ?_ | refine g_end ?_ | refine g_then ?_ | refine g_in_normal ?_ | refine g_then_ret ?_ | refine g_in_ret ?_ | refine g_then_exit ?_ | refine g_in_exit rfl ?_ | refine g_in_exit_ne (by decide) ?_ | refine g_seq ?_ | refine g_region ?_ | refine g_block ?_ | refine g_ret ?_ | refine g_return_n ?_ | refine g_exit ?_ | refine g_skip ?_)
      exact g_meets ⟨((i + 1, cs), S, e), hin, hnx, by dsimp only; omega⟩ (by show n - (i + 1) < n - i; omega) (Sat.mem ⟨rfl, rfl, rfl, trivial⟩)
    · rw [if_neg (by rw [decide_eq_true_iff]; exact hnm)] at hnx
      repeat (first | refine g_endt ?_ | refine g_end ?_ | refine g_then ?_ | refine g_in_normal ?_ | refine g_then_ret ?_ | refine g_in_ret ?_ | refine g_then_exit ?_ | refine g_in_exit rfl ?_ | refine g_in_exit_ne (by decide) ?_ | refine g_seq ?_ | refine g_region ?_ | refine g_block ?_ | refine g_ret ?_ | refine g_return_n ?_ | refine g_exit ?_ | refine g_skip ?_)
      refine g_hideR fun Q_ hQ_ => ?_
      refine o_move ?_
      refine o_move ?_
      refine o_indexR (ys := ms) (i := i) rfl rfl rfl (by omega) hl rfl ?_
      refine o_fieldR (ys := ms) rfl (by omega) ?_
      refine o_loadE1 (ys := ms) (i := i) (off := 0) (v := .string q.name) rfl hq rfl ?_
      refine o_sneqT (r := true) rfl rfl (by rw [empty_toList]; simpa using hnm) ?_
      refine g_end (G.imp (hQ_ .normal _) ?_)
      clear hQ_ Q_
      try refine g_then ?_
      first | refine g_seq (g_cond_t rfl (by first | rfl | (simp; done) | (simp; omega) | (simp; assumption)) ?_) | refine g_cond_t rfl (by first | rfl | (simp; done) | (simp; omega) | (simp; assumption)) ?_
      repeat (first | refine g_endt ?_ | refine g_end ?_ | refine g_then ?_ | refine g_in_normal ?_ | refine g_then_ret ?_ | refine g_in_ret ?_ | refine g_then_exit ?_ | refine g_in_exit rfl ?_ | refine g_in_exit_ne (by decide) ?_ | refine g_seq ?_ | refine g_region ?_ | refine g_block ?_ | refine g_ret ?_ | refine g_return_n ?_ | refine g_exit ?_ | refine g_skip ?_)
      refine g_hideR fun Q_ hQ_ => ?_
      refine o_move ?_
      refine o_move ?_
      refine o_move ?_
      refine o_indexR (ys := ms) (i := i) rfl rfl rfl (by omega) hl rfl ?_
      refine o_loadE (ys := ms) rfl rfl hq ?_
      refine o_litP (e := 52) MatD.enc [q] q.val.cells (fun w => by kernel_rfl) (by simp [MatD.enc]) (by simp [maxLen]) fun _ => ?_
      refine o_append (xs := cs) (ys := [q]) (by first | rfl | (simp only [List.length_map, List.length_take, List.length_append]; first | rfl | (congr 1; omega))) rfl rfl rfl rfl (fun _ => .inr trivial) (by simp [maxLen]; omega) (by simp; omega) fun S2 e2 => ?_
      refine o_assign ?_
      refine g_end (G.imp (hQ_ .normal _) ?_)
      clear hQ_ Q_
      try refine g_then ?_
      repeat (first | refine g_endt ?_ | refine g_end ?_ | refine g_then ?_ | refine g_in_normal ?_ | refine g_then_ret ?_ | refine g_in_ret ?_ | refine g_then_exit ?_ | refine g_in_exit rfl ?_ | refine g_in_exit_ne (by decide) ?_ | refine g_seq ?_ | refine g_region ?_ | refine g_block ?_ | refine g_ret ?_ | refine g_return_n ?_ | refine g_exit ?_ | refine g_skip ?_)
      repeat (first | refine g_endt ?_ | refine g_end ?_ | refine g_then ?_ | refine g_in_normal ?_ | refine g_then_ret ?_ | refine g_in_ret ?_ | refine g_then_exit ?_ | refine g_in_exit rfl ?_ | refine g_in_exit_ne (by decide) ?_ | refine g_seq ?_ | refine g_region ?_ | refine g_block ?_ | refine g_ret ?_ | refine g_return_n ?_ | refine g_exit ?_ | refine g_skip ?_)
      refine g_hideR fun Q_ hQ_ => ?_
      refine o_move ?_
      refine o_add (c := ((i + 1 : Nat) : Int)) rfl rfl (by omega) (by omega) (by omega) ?_
      refine o_assign ?_
      refine g_end (G.imp (hQ_ .normal _) ?_)
      clear hQ_ Q_
      try refine g_then ?_
      repeat (first | refine g_endt ?_ | refine g_end ?_ | refine g_then ?_ | refine g_in_normal ?_ | refine g_then_ret ?_ | refine g_in_ret ?_ | refine g_then_exit ?_ | refine g_in_exit rfl ?_ | refine g_in_exit_ne (by decide) ?_ | refine g_seq ?_ | refine g_region ?_ | refine g_block ?_ | refine g_ret ?_ | refine g_return_n ?_ | refine g_exit ?_ | refine g_skip ?_)
      exact g_meets ⟨((i + 1, cs ++ [q]), S2, e2), hin, hnx, by simp; omega⟩ (by show n - (i + 1) < n - i; omega) (Sat.mem ⟨rfl, by show _ = Value.slice S2 (cs ++ [q]).length e2; rw [List.length_append]; rfl, rfl, trivial⟩)
  · skip
    repeat (first | refine g_endt ?_ | refine g_end ?_ | refine g_then ?_ | refine g_in_normal ?_ | refine g_then_ret ?_ | refine g_in_ret ?_ | refine g_then_exit ?_ | refine g_in_exit rfl ?_ | refine g_in_exit_ne (by decide) ?_ | refine g_seq ?_ | refine g_region ?_ | refine g_block ?_ | refine g_ret ?_ | refine g_return_n ?_ | refine g_exit ?_ | refine g_skip ?_)
    refine g_hideR fun Q_ hQ_ => ?_
    refine o_move ?_
    refine o_move ?_
    refine o_len rfl rfl ?_
    refine o_lssT (t := false) rfl rfl (decide_eq_false (by omega)) ?_
    refine g_end (G.imp (hQ_ .normal _) ?_)
    clear hQ_ Q_
    try refine g_then ?_
    first | refine g_seq (g_cond_f rfl (by first | rfl | (simp; done) | (simp; omega) | (simp; assumption)) ?_) | refine g_cond_f rfl (by first | rfl | (simp; done) | (simp; omega) | (simp; assumption)) ?_
    repeat (first | refine g_endt ?_ | refine g_end ?_ | refine g_then ?_ | refine g_in_normal ?_ | refine g_then_ret ?_ | refine g_in_ret ?_ | refine g_then_exit ?_ | refine g_in_exit rfl ?_ | refine g_in_exit_ne (by decide) ?_ | refine g_seq ?_ | refine g_region ?_ | refine g_block ?_ | refine g_ret ?_ | refine g_return_n ?_ | refine g_exit ?_ | refine g_skip ?_)
    have : cs = os := by rw [← ho, ← hcs, List.take_of_length_le (by omega)]
    subst this
    refine G.bring [osl 52 MatD.enc 2 S e cs] (G.frz ?_)
    repeat (first | refine g_endt ?_ | refine g_end ?_ | refine g_then ?_ | refine g_in_normal ?_ | refine g_then_ret ?_ | refine g_in_ret ?_ | refine g_then_exit ?_ | refine g_in_exit rfl ?_ | refine g_in_exit_ne (by decide) ?_ | refine g_seq ?_ | refine g_region ?_ | refine g_block ?_ | refine g_ret ?_ | refine g_return_n ?_ | refine g_exit ?_ | refine g_skip ?_)
    refine g_hideR fun Q_ hQ_ => ?_
    refine o_move ?_
    refine o_assign ?_
    refine g_end (G.imp (hQ_ .normal _) ?_)
    clear hQ_ Q_
    try refine g_then ?_
    repeat (first | refine g_endt ?_ | refine g_end ?_ | refine g_then ?_ | refine g_in_normal ?_ | refine g_then_ret ?_ | refine g_in_ret ?_ | refine g_then_exit ?_ | refine g_in_exit rfl ?_ | refine g_in_exit_ne (by decide) ?_ | refine g_seq ?_ | refine g_region ?_ | refine g_block ?_ | refine g_ret ?_ | refine g_return_n ?_ | refine g_exit ?_ | refine g_skip ?_)
    exact ret1 (K := [psl MatD.enc 2 S cs]) rfl (resT (v := .slice S cs.length e) rfl) ⟨S, e, rfl, rfl⟩
/-! ### The tags that are there -/
def HereX (b : Nat) (H : Option Addr) (hn hc : Nat) (hs : List Int) : SProp := sl [pblk b (.cells #[.slice H hn hc] 22 (0, 0)), psl encI 1 H hs]
theorem openHX {w0 : World} {A : SProp} {L M : List SProp} {Φ : World → Prop} (b : Nat) (H : Option Addr) (hn hc : Nat) (hs : List Int) [tk : Take1 L (HereX b H hn hc hs) M] (h : G w0 A (pblk b (.cells #[.slice H hn hc] 22 (0, 0)) :: psl encI 1 H hs :: M) Φ) : G w0 A L Φ := G.perm tk.perm (G.open_sl h)
theorem shutHX {w0 : World} {A : SProp} {L M : List SProp} {Φ : World → Prop} (b : Nat) (H : Option Addr) (hn hc : Nat) (hs : List Int) [tk : Take L [pblk b (.cells #[.slice H hn hc] 22 (0, 0)), psl encI 1 H hs] M] (h : G w0 A (HereX b H hn hc hs :: M) Φ) : G w0 A L Φ :=
  G.perm tk.perm (G.ent (sl_append_to _ M) h)
theorem hereS_spec (b : Nat) (H : Option Addr) (hn hc : Nat) (hs : List Int) (hl : hs.length = hn) (hm : hn ≤ 1000000) (t : Int) : Ctr Try.prog 29 ([.int .i64 t] ++ [.pointer (some ⟨b, 0, none⟩)]) [HereX b H hn hc hs] (fun v M => v = .bool (hasI hs t) ∧ M = [HereX b H hn hc hs]) := by
  refine spec_of Try.func29 rfl Try.ntmps29 rfl fun w0 F => ?_
  -- hide
  -- ponder/ponderlaw14.InstSettles$1
  refine openHX b H hn hc hs ?_
  repeat (first | refine g_endt ?_ | refine g_end ?_ | refine g_then ?_ | refine g_in_normal ?_ | refine g_then_ret ?_ | refine g_in_ret ?_ | refine g_then_exit ?_ | refine g_in_exit rfl ?_ | refine g_in_exit_ne (by decide) ?_ | refine g_seq ?_ | refine g_region ?_ | refine g_block ?_ | refine g_ret ?_ | refine g_return_n ?_ | refine g_exit ?_ | refine g_skip ?_)
  refine g_hideR fun Q_ hQ_ => ?_
  refine o_assign ?_
  refine g_end (G.imp (hQ_ .normal _) ?_)
  clear hQ_ Q_
  try refine g_then ?_
  repeat (first | refine g_endt ?_ | refine g_end ?_ | refine g_then ?_ | refine g_in_normal ?_ | refine g_then_ret ?_ | refine g_in_ret ?_ | refine g_then_exit ?_ | refine g_in_exit rfl ?_ | refine g_in_exit_ne (by decide) ?_ | refine g_seq ?_ | refine g_region ?_ | refine g_block ?_ | refine g_ret ?_ | refine g_return_n ?_ | refine g_exit ?_ | refine g_skip ?_)
  refine g_hideR fun Q_ hQ_ => ?_
  refine o_load1 (v := .slice H hn hc) rfl rfl ?_
  refine o_move ?_
  refine o_callp (HasQ_spec H hc hn hs t hl hm rfl) rfl rfl ?_
  rintro _ _ ⟨rfl, rfl⟩
  refine o_assign ?_
  refine g_end (G.imp (hQ_ .normal _) ?_)
  clear hQ_ Q_
  try refine g_then ?_
  refine shutHX b H hn hc hs ?_
  repeat (first | refine g_endt ?_ | refine g_end ?_ | refine g_then ?_ | refine g_in_normal ?_ | refine g_then_ret ?_ | refine g_in_ret ?_ | refine g_then_exit ?_ | refine g_in_exit rfl ?_ | refine g_in_exit_ne (by decide) ?_ | refine g_seq ?_ | refine g_region ?_ | refine g_block ?_ | refine g_ret ?_ | refine g_return_n ?_ | refine g_exit ?_ | refine g_skip ?_)
  exact ret1 (K := [HereX b H hn hc hs]) rfl (resT (v := .bool (hasI hs t)) rfl) ⟨rfl, rfl⟩
end Go.Proofs.Ytkglmhgehccmoaa
/- Once what is to be asserted stands, and what is to be retracted does not, there is nothing to do: plain. -/
namespace Go.Proofs.Ytkglmhgehccmoaa
open Go Go.Sl
attribute [local irreducible] Exit.then Exit.inBlock Code.wpIn roundPost bodyPostM runL Ret Meets MeetsD Begin

theorem pw_num {ls : List InstP} (hs : ls.Pairwise fun x y => x.num < y.num) {x y : InstP} (hx : x ∈ ls) (hy : y ∈ ls) (e : x.num = y.num) : x = y := by
  obtain ⟨i, hi⟩ := List.getElem?_of_mem hx
  obtain ⟨j, hj⟩ := List.getElem?_of_mem hy
  obtain ⟨hi1, hi2⟩ := List.getElem?_eq_some_iff.1 hi
  obtain ⟨hj1, hj2⟩ := List.getElem?_eq_some_iff.1 hj
  have hp := List.pairwise_iff_getElem.1 hs
  rcases Nat.lt_trichotomy i j with h | h | h
  · have := hp i j hi1 hj1 h; rw [hi2, hj2] at this; omega
  · subst h; rw [← hi2, ← hj2]
  · have := hp j i hj1 hi1 h; rw [hi2, hj2] at this; omega
theorem drop_downs (ms : List MatP) (hr : Int → Bool) {ls : List InstP} (hs : ls.Pairwise fun x y => x.num < y.num) : dropL ls (downsI ms hr ls) = ls.filter fun x => !goesI ms hr x := by
  unfold dropL
  refine List.filter_congr fun x hx => ?_
  congr 1
  rw [Bool.eq_iff_iff, hasI_iff]
  unfold downsI
  rw [List.mem_map]
  constructor
  · rintro ⟨y, hy, e⟩
    obtain ⟨hy1, hy2⟩ := List.mem_filter.1 hy
    rw [← pw_num hs hy1 hx e]; exact hy2
  · exact fun h => ⟨x, List.mem_filter.2 ⟨hx, h⟩, rfl⟩
theorem drop_count (ms : List MatP) (hr : Int → Bool) {ls : List InstP} (hs : ls.Pairwise fun x y => x.num < y.num) : ls.length - (dropL ls (downsI ms hr ls)).length = (downsI ms hr ls).length := by
  rw [drop_downs ms hr hs]
  unfold downsI
  rw [List.length_map]
  have h : ∀ (l : List InstP), (l.filter fun x => !goesI ms hr x).length + (l.filter (goesI ms hr)).length = l.length := by
    intro l
    induction l with
    | nil => rfl
    | cons x l ih =>
      rw [List.filter_cons, List.filter_cons, List.length_cons]
      cases goesI ms hr x <;> simp <;> omega
  have := h ls
  omega
/-- What is asserted, as it stands then. -/
def stand1 (next : Int) (k : Nat) (m : MatP) : InstP := ⟨next + (k : Int), 1, m.name, m.tags, false⟩
def standA (next : Int) (us : List MatP) (i : Nat) : List InstP := ((us.take i).zipIdx).map fun z => stand1 next z.2 z.1
theorem standA_succ (next : Int) {us : List MatP} {i : Nat} {m : MatP} (h : us[i]? = some m) : standA next us (i + 1) = standA next us i ++ [⟨next + (i : Int), 1, m.name, m.tags, false⟩] := by
  have hi := (List.getElem?_eq_some_iff.1 h).1
  unfold standA
  rw [List.take_add_one, h]
  show List.map _ ((us.take i ++ [m]).zipIdx) = _
  rw [List.zipIdx_append, List.map_append]
  simp [stand1, Nat.min_eq_left (Nat.le_of_lt hi)]
theorem standA_len (next : Int) (us : List MatP) (i : Nat) : (standA next us i).length ≤ i := by unfold standA; simp; omega
theorem standA_mem {next : Int} {us : List MatP} {i : Nat} {x : InstP} (h : x ∈ standA next us i) : x.m ∈ us := by
  unfold standA at h
  obtain ⟨⟨m, k⟩, hz, rfl⟩ := List.mem_map.1 h
  have := (List.mem_zipIdx hz).2.2
  have hm : m ∈ us.take i := by rw [this]; exact List.getElem_mem _
  exact List.mem_of_mem_take hm
theorem standA_has {next : Int} {us : List MatP} {m : MatP} (h : m ∈ us) : ∃ x ∈ standA next us us.length, x.m = m := by
  obtain ⟨k, hk⟩ := List.getElem?_of_mem h
  refine ⟨stand1 next k m, ?_, rfl⟩
  unfold standA
  rw [List.take_of_length_le (Nat.le_refl _)]
  refine List.mem_map.2 ⟨(m, k), ?_, rfl⟩
  rw [List.mem_zipIdx_iff_getElem?]
  exact hk
theorem upsI_mem {ms : List MatP} {ls : List InstP} {m : MatP} : m ∈ upsI ms ls ↔ m ∈ ms ∧ ¬ m ∈ ls.map InstP.m := by
  unfold upsI
  rw [List.mem_filter, Bool.not_eq_true', hasC_allM, ← mem_hasC (l := allM ms), hasC_allM, mem_hasC]
  constructor
  · rintro ⟨h1, h2⟩
    exact ⟨h1, fun h => by rw [mem_hasC.2 h] at h2; cases h2⟩
  · rintro ⟨h1, h2⟩
    exact ⟨h1, Bool.eq_false_iff.2 fun h => h2 (mem_hasC.1 h)⟩
theorem goes_named {ms : List MatP} (hr : Int → Bool) {x : InstP} (hx : ¬ x.name.toList = []) (hm : x.m ∈ ms) : goesI ms hr x = false := by
  unfold goesI
  rw [if_neg hx, hasC_allM, mem_hasC.2 hm]
  rfl
/-- Nothing is to be asserted then, nothing to be retracted. -/
theorem settled_ups {ms : List MatP} (hn : ∀ m ∈ ms, ¬ m.name.toList = []) (hr : Int → Bool) (ls : List InstP) (next : Int) : upsI ms ((ls.filter fun x => !goesI ms hr x) ++ standA next (upsI ms ls) (upsI ms ls).length) = [] := by
  rw [List.eq_nil_iff_forall_not_mem]
  intro m hm
  obtain ⟨h1, h2⟩ := upsI_mem.1 hm
  refine h2 ?_
  rw [List.map_append, List.mem_append]
  by_cases hs : m ∈ ls.map InstP.m
  · obtain ⟨x, hx, rfl⟩ := List.mem_map.1 hs
    refine .inl (List.mem_map.2 ⟨x, List.mem_filter.2 ⟨hx, ?_⟩, rfl⟩)
    rw [goes_named hr (hn _ h1) h1]; rfl
  · obtain ⟨x, hx, e⟩ := standA_has (next := next) (upsI_mem.2 ⟨h1, hs⟩)
    exact .inr (List.mem_map.2 ⟨x, hx, e⟩)
theorem settled_downs {ms : List MatP} (hn : ∀ m ∈ ms, ¬ m.name.toList = []) (hr : Int → Bool) (ls : List InstP) (next : Int) (us : List MatP) (hu : ∀ m ∈ us, m ∈ ms) (i : Nat) : downsI ms hr ((ls.filter fun x => !goesI ms hr x) ++ standA next us i) = [] := by
  unfold downsI
  rw [List.map_eq_nil_iff, List.filter_eq_nil_iff]
  intro x hx
  rcases List.mem_append.1 hx with hx | hx
  · have := (List.mem_filter.1 hx).2
    simpa using this
  · have h1 := hu _ (standA_mem hx)
    rw [goes_named hr (hn _ h1) h1]; decide
end Go.Proofs.Ytkglmhgehccmoaa
/- Many rows that stay: each of a list's. Plain library, no program in sight. -/
namespace Go.Sl
open Go Go.Proofs
/-- What each of these has reads so for ever. -/
def pall {α β : Type} (enc : β → List Value) (sz : Nat) (a : α → Option Addr) (l : α → List β) (zs : List α) : SProp := ⟨fun B _ => ∀ p ∈ zs, rdE (a p) enc sz (l p) B, fun le _ h p hp => (h p hp).le le⟩
instance {α β : Type} {enc : β → List Value} {sz : Nat} {a : α → Option Addr} {l : α → List β} {zs : List α} : Pers (pall enc sz a l zs) := ⟨fun _ _ x => x⟩
section
variable {w0 : World} {A : SProp} {L M : List SProp} {Φ : World → Prop} {α β : Type} {enc : β → List Value} {sz : Nat}
theorem G.frzAll {e : TypeId} [en : EncLen enc sz] (a : α → Option Addr) (c : α → Nat) (l : α → List β) : ∀ (zs : List α) {L : List SProp}, G w0 A (pall enc sz a l zs :: L) Φ → G w0 A (bigS zs (fun p => osl e enc sz (a p) (c p) (l p)) :: L) Φ
  | [], L, h => by
    refine G.drop (G.ent (L := L) (L' := pall enc sz a l [] :: L) ?_ h)
    exact fun B k x => ⟨hnil, k, (Dj.nil _).symm, .nil _, .refl _, fun p hp => (by cases hp), x⟩
  | p :: zs, L, h => by
    refine G.open_star (X := osl e enc sz (a p) (c p) (l p)) (Y := bigS zs fun p => osl e enc sz (a p) (c p) (l p)) (G.freeze_slice ?_)
    refine G.perm (List.Perm.swap _ _ _) (G.frzAll a c l zs (L := psl enc sz (a p) (l p) :: L) ?_)
    refine G.ent (L := pall enc sz a l zs :: psl enc sz (a p) (l p) :: L) (L' := pall enc sz a l (p :: zs) :: L) ?_ h
    rintro B k ⟨k1, k2, d, l1, l2, x, k3, k4, d2, l3, l4, y, z⟩
    refine ⟨hnil, k, (Dj.nil _).symm, .nil _, .refl _, fun r hr => ?_, (sl L).mono (Le.refl _) (l4.trans l2) z⟩
    rcases List.mem_cons.1 hr with rfl | hr
    · exact y
    · exact x r hr
end
end Go.Sl
