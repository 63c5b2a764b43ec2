/- Parts of a proof, in order. -/
import Derived.Test.YtdpbjoldgiikkaaZA4

set_option linter.unusedSimpArgs false
set_option linter.unusedVariables false
/- Working memory set to a row of elements: the walk. -/
namespace Go.Proofs.Ytdpbjoldgiikkaa
open Go Go.Sl
attribute [local irreducible] Exit.then Exit.inBlock Code.wpIn roundPost bodyPostM runL Ret Meets MeetsD Begin

theorem setD_bad {room next : Int} {ts l : List ElemD} (h : l.all validE = false) : setD room next ts l = ⟨[], [], 9, next, ts⟩ := by unfold setD; rw [if_pos h]
theorem setD_full {room next : Int} {ts l : List ElemD} (h : l.all validE = true) (h2 : room < ((sortE l).length : Int)) : setD room next ts l = ⟨[], [], 23, next, ts⟩ := by unfold setD; rw [if_neg (by rw [h]; decide), if_pos h2]
theorem setD_ok {room next : Int} {ts l : List ElemD} (h : l.all validE = true) (h2 : ¬ room < ((sortE l).length : Int)) : setD room next ts l = ⟨tagD next (freshD (sortE l) ts), goneD (sortE l) ts, 0, next + (freshD (sortE l) ts).length, stayD (sortE l) ts ++ tagD next (freshD (sortE l) ts)⟩ := by unfold setD; rw [if_neg (by rw [h]; decide), if_neg h2]
theorem sortE_mono (l : List ElemD) (i : Nat) : (sortE (l.take i)).length ≤ (sortE l).length := by
  have : ∀ (m a : List ElemD), a.length ≤ (m.foldl (insC ElemD.cmp) a).length := by
    intro m
    induction m with
    | nil => exact fun a => Nat.le_refl _
    | cons x m ih => intro a; refine Nat.le_trans ?_ (ih _); rw [length_insC]; split <;> omega
  have h : sortE l = (l.drop i).foldl (insC ElemD.cmp) (sortE (l.take i)) := by
    unfold sortE; rw [← List.foldl_append, List.take_append_drop]
  rw [h]; exact this _ _
theorem sortE_srt' (l : List ElemD) : Srt ElemD.cmp (sortE l) := sortE_srt l [] Srt.nil
theorem sortE_len' (l : List ElemD) : (sortE l).length ≤ l.length := by have := sortE_len l []; simpa [sortE] using this
theorem GetKES_spec (p : Nat) (ys : List ElemD) (x : ElemD) (hs : Srt ElemD.cmp ys) (hl : ys.length < 1000000000) {r : Option ElemD} (hr : getM ElemD.cmp ys x = r) : Ctr Try.prog 42 [.pointer (some ⟨p, 0, none⟩), x.val] [SetAES p ys]
    (fun v M => v = .tuple #[(r.getD ElemD.zero).val, .bool r.isSome] ∧ M = [SetAES p ys]) := (GetES_spec p ys x hs hl).mono fun v M ⟨o, h1, h2, h3⟩ => by
  have : getM ElemD.cmp ys x = o := by
    cases o with
    | none =>
      obtain ⟨k, hk⟩ := h3
      have := hasC_of hk
      rw [← getM_isSome] at this
      exact Option.not_isSome_iff_eq_none.1 (by rw [this]; decide)
    | some y =>
      obtain ⟨k, hk, hy⟩ := h3
      obtain ⟨z, hz, e⟩ := hk.2.1 rfl
      rw [hy] at hz; cases hz
      exact getM_of linElem hs (List.mem_of_getElem? hy) e
  rw [← hr, this]; exact ⟨h1, h2⟩
def nxD (n : Int) : Nat → Int
  | 0 => n
  | k + 1 => n + (k + 1 : Nat)
theorem nxD_eq (n : Int) (k : Nat) : nxD n k = n + k := by cases k <;> simp [nxD]
def tsD (stay : List ElemD) : List ElemD → List ElemD
  | [] => stay
  | e :: l => stay ++ e :: l
theorem tsD_eq (stay l : List ElemD) : tsD stay l = stay ++ l := by cases l <;> simp [tsD]
abbrev pT (b p : Nat) : SProp := pblk b (.cells #[.pointer (some ⟨p, 0, none⟩)] 70 (0, 0))
abbrev pE (b p : Nat) : SProp := pblk b (.cells #[.pointer (some ⟨p, 0, none⟩)] 68 (0, 0))
abbrev oE (S : Option Addr) (c : Nat) (l : List ElemD) : SProp := osl 25 encE 12 S c l
abbrev cP1 (q s : Nat) : SProp := cellsB q #[.pointer (some ⟨s, 0, none⟩)] 29
abbrev cL1 (c : Nat) (S : Option Addr) (n k : Nat) : SProp := cellsB c #[.slice S n k] 27
abbrev cW1 (c w : Nat) : SProp := cellsB c #[.pointer (some ⟨w, 0, none⟩)] 68
abbrev setK (s : Nat) (room next : Int) (ts : List ElemD) (A : Option Addr) (l : List ElemD) : List SProp := [StP s room next ts, psl encE 12 A l]
set_option maxHeartbeats 8000000 in
theorem Set10_spec (s : Nat) (room next : Int) (ts : List ElemD) (A : Option Addr) (n c : Nat) (l : List ElemD) (hl : l.length = n) (hm : n ≤ 10000) (hsm : ∀ e ∈ l, e.small) (hts : ts.length ≤ 10000) (hr : 0 ≤ room) (hnx : -1000000000 ≤ next ∧ next ≤ 1000000000) :
    Ctr Try.prog 14 [.pointer (some ⟨s, 0, none⟩), .slice A n c] [StP s room next ts, psl encE 12 A l]
      (fun v M => ∃ U u W w, v = .tuple #[.slice U (setD room next ts l).added.length u, .slice W (setD room next ts l).gone.length w, .int .i64 (setD room next ts l).err] ∧
        M = [StP s room (setD room next ts l).next (setD room next ts l).ts, oE U u (setD room next ts l).added, oE W w (setD room next ts l).gone, psl encE 12 A l]) := by
  refine spec_of Try.func14 rfl Try.ntmps14 rfl fun w0 F => ?_
  -- hide
  -- (*ponder/mem.Store).Set
  refine openSt s room next ts fun a ys hst => ?_
  have hyl := hst.len
  repeat (first | refine g_endt ?_ | refine g_end ?_ | refine g_then ?_ | refine g_in_normal ?_ | refine g_then_ret ?_ | refine g_in_ret ?_ | refine g_then_exit ?_ | refine g_in_exit rfl ?_ | refine g_in_exit_ne (by decide) ?_ | refine g_seq ?_ | refine g_region ?_ | refine g_block ?_ | refine g_ret ?_ | refine g_return_n ?_ | refine g_exit ?_ | refine g_skip ?_)
  refine g_hideR fun Q_ hQ_ => ?_
  refine o_boxc #[.pointer (some ⟨s, 0, none⟩)] rfl rfl fun q => ?_
  refine o_alloc fun c4 => ?_
  refine o_alloc fun c5 => ?_
  refine o_assign ?_
  refine g_end (G.imp (hQ_ .normal _) ?_)
  clear hQ_ Q_
  try refine g_then ?_
  refine G.norm c4 #[.slice none 0 0] rfl ?_
  refine G.norm c5 #[.slice none 0 0] rfl ?_
  repeat (first | refine g_endt ?_ | refine g_end ?_ | refine g_then ?_ | refine g_in_normal ?_ | refine g_then_ret ?_ | refine g_in_ret ?_ | refine g_then_exit ?_ | refine g_in_exit rfl ?_ | refine g_in_exit_ne (by decide) ?_ | refine g_seq ?_ | refine g_region ?_ | refine g_block ?_ | refine g_ret ?_ | refine g_return_n ?_ | refine g_exit ?_ | refine g_skip ?_)
  refine g_hideR fun Q_ hQ_ => ?_
  refine o_call (NewES_spec) rfl rfl ?_
  rintro _ _ ⟨w, rfl, rfl⟩
  refine o_alloc fun c7 => ?_
  refine o_store (v := .pointer (some ⟨w, 0, none⟩)) rfl rfl rfl rfl rfl ?_
  refine g_end (G.imp (hQ_ .normal _) ?_)
  clear hQ_ Q_
  try refine g_then ?_
  refine G.norm c7 #[.pointer (some ⟨w, 0, none⟩)] rfl ?_
  repeat (first | refine g_endt ?_ | refine g_end ?_ | refine g_then ?_ | refine g_in_normal ?_ | refine g_then_ret ?_ | refine g_in_ret ?_ | refine g_then_exit ?_ | refine g_in_exit rfl ?_ | refine g_in_exit_ne (by decide) ?_ | refine g_seq ?_ | refine g_region ?_ | refine g_block ?_ | refine g_ret ?_ | refine g_return_n ?_ | refine g_exit ?_ | refine g_skip ?_)
  refine g_hideR fun Q_ hQ_ => ?_
  refine o_move ?_
  refine o_len rfl rfl ?_
  refine o_move ?_
  refine g_end (G.imp (hQ_ .normal _) ?_)
  clear hQ_ Q_
  try refine g_then ?_
  repeat (first | refine g_endt ?_ | refine g_end ?_ | refine g_then ?_ | refine g_in_normal ?_ | refine g_then_ret ?_ | refine g_in_ret ?_ | refine g_then_exit ?_ | refine g_in_exit rfl ?_ | refine g_in_exit_ne (by decide) ?_ | refine g_seq ?_ | refine g_region ?_ | refine g_block ?_ | refine g_ret ?_ | refine g_return_n ?_ | refine g_exit ?_ | refine g_skip ?_)
  refine g_loop (σ := {i : Nat // i ≤ n ∧ ∀ (j : Nat) (e : ElemD), j < i → l[j]? = some e → validE e = true}) (S := fun i => [(1, .slice A n c), (2, .pointer (some ⟨q, 0, none⟩)), (4, .pointer (some ⟨c4, 0, none⟩)), (5, .pointer (some ⟨c5, 0, none⟩)), (6, .int .i64 0), (7, .pointer (some ⟨c7, 0, none⟩)), (22, .slice A n c), (23, .int .i64 (n : Int)), (24, .int .i64 (i.1 : Int))])
    (H := fun _ => SetAES w [] :: cW1 c7 w :: cL1 c4 none 0 0 :: cL1 c5 none 0 0 :: cP1 q s :: psl encE 12 A l :: stC s room next a :: stK a ts ys) (μ := fun i => n - i.1) (s0 := ⟨0, Nat.zero_le _, fun j e h => absurd h (Nat.not_lt_zero j)⟩) (Sat.mem ⟨rfl, rfl, rfl, rfl, rfl, rfl, rfl, rfl, rfl, trivial⟩)
    (t := (inferInstance : Take _ (SetAES w [] :: cW1 c7 w :: cL1 c4 none 0 0 :: cL1 c5 none 0 0 :: cP1 q s :: psl encE 12 A l :: stC s room next a :: stK a ts ys) _)) ?_
  rintro ⟨i, hi, hlow⟩ ρ'
  dsimp only at hi hlow ⊢
  repeat (first | refine g_endt ?_ | refine g_end ?_ | refine g_then ?_ | refine g_in_normal ?_ | refine g_then_ret ?_ | refine g_in_ret ?_ | refine g_then_exit ?_ | refine g_in_exit rfl ?_ | refine g_in_exit_ne (by decide) ?_ | refine g_seq ?_ | refine g_region ?_ | refine g_block ?_ | refine g_ret ?_ | refine g_return_n ?_ | refine g_exit ?_ | refine g_skip ?_)
  refine g_hideR fun Q_ hQ_ => ?_
  refine o_lss rfl rfl ?_
  refine g_end (G.imp (hQ_ .normal _) ?_)
  clear hQ_ Q_
  try refine g_then ?_
  by_cases hin : i < n
  · skip
    repeat (first | refine g_endt ?_ | refine g_end ?_ | refine g_then ?_ | refine g_in_normal ?_ | refine g_then_ret ?_ | refine g_in_ret ?_ | refine g_then_exit ?_ | refine g_in_exit rfl ?_ | refine g_in_exit_ne (by decide) ?_ | refine g_seq ?_ | refine g_region ?_ | refine g_block ?_ | refine g_ret ?_ | refine g_return_n ?_ | refine g_exit ?_ | refine g_skip ?_)
    first | refine g_seq (g_cond_t rfl (by first | rfl | (simp; done) | (simp; omega) | (simp; assumption)) ?_) | refine g_cond_t rfl (by first | rfl | (simp; done) | (simp; omega) | (simp; assumption)) ?_
    obtain ⟨e, he⟩ : ∃ e, l[i]? = some e := ⟨_, List.getElem?_eq_getElem (by omega)⟩
    repeat (first | refine g_endt ?_ | refine g_end ?_ | refine g_then ?_ | refine g_in_normal ?_ | refine g_then_ret ?_ | refine g_in_ret ?_ | refine g_then_exit ?_ | refine g_in_exit rfl ?_ | refine g_in_exit_ne (by decide) ?_ | refine g_seq ?_ | refine g_region ?_ | refine g_block ?_ | refine g_ret ?_ | refine g_return_n ?_ | refine g_exit ?_ | refine g_skip ?_)
    refine g_hideR fun Q_ hQ_ => ?_
    refine o_indexR (ys := l) (i := i) rfl rfl rfl (by omega) hl rfl ?_
    refine o_loadE (ys := l) rfl rfl he ?_
    refine o_alloc fun c9 => ?_
    refine o_store (v := e.val) rfl rfl rfl rfl rfl ?_
    refine g_end (G.imp (hQ_ .normal _) ?_)
    clear hQ_ Q_
    try refine g_then ?_
    refine G.norm c9 e.val.cells rfl ?_
    repeat (first | refine g_endt ?_ | refine g_end ?_ | refine g_then ?_ | refine g_in_normal ?_ | refine g_then_ret ?_ | refine g_in_ret ?_ | refine g_then_exit ?_ | refine g_in_exit rfl ?_ | refine g_in_exit_ne (by decide) ?_ | refine g_seq ?_ | refine g_region ?_ | refine g_block ?_ | refine g_ret ?_ | refine g_return_n ?_ | refine g_exit ?_ | refine g_skip ?_)
    refine g_hideR fun Q_ hQ_ => ?_
    refine o_loadN (v := e.val) rfl rfl rfl ?_
    refine o_call (ValidM_spec e (hsm e (List.mem_of_getElem? he))) rfl rfl ?_
    rintro _ _ ⟨rfl, rfl⟩
    refine o_not rfl ?_
    refine g_end (G.imp (hQ_ .normal _) ?_)
    clear hQ_ Q_
    try refine g_then ?_
    cases hv : validE e with
    | false =>
      first | refine g_seq (g_cond_t rfl (by first | rfl | (simp; done) | (simp; omega) | (simp; assumption)) ?_) | refine g_cond_t rfl (by first | rfl | (simp; done) | (simp; omega) | (simp; assumption)) ?_
      have hbad : l.all validE = false := by
        rw [List.all_eq_false]; exact ⟨e, List.mem_of_getElem? he, by rw [hv]; decide⟩
      rw [setD_bad hbad]
      repeat (first | refine g_endt ?_ | refine g_end ?_ | refine g_then ?_ | refine g_in_normal ?_ | refine g_then_ret ?_ | refine g_in_ret ?_ | refine g_then_exit ?_ | refine g_in_exit rfl ?_ | refine g_in_exit_ne (by decide) ?_ | refine g_seq ?_ | refine g_region ?_ | refine g_block ?_ | refine g_ret ?_ | refine g_return_n ?_ | refine g_exit ?_ | refine g_skip ?_)
      refine g_hideR fun Q_ hQ_ => ?_
      refine o_store (v := .slice none 0 0) rfl rfl rfl rfl rfl ?_
      refine o_store (v := .slice none 0 0) rfl rfl rfl rfl rfl ?_
      refine o_assign ?_
      refine g_end (G.imp (hQ_ .normal _) ?_)
      clear hQ_ Q_
      try refine g_then ?_
      refine G.norm c4 #[.slice none 0 0] rfl ?_
      refine G.norm c5 #[.slice none 0 0] rfl ?_
      refine shutSt s room next ts a ys hst ?_
      refine G.nil_slice 25 encE 12 ?_
      refine G.nil_slice 25 encE 12 ?_
      repeat (first | refine g_endt ?_ | refine g_end ?_ | refine g_then ?_ | refine g_in_normal ?_ | refine g_then_ret ?_ | refine g_in_ret ?_ | refine g_then_exit ?_ | refine g_in_exit rfl ?_ | refine g_in_exit_ne (by decide) ?_ | refine g_seq ?_ | refine g_region ?_ | refine g_block ?_ | refine g_ret ?_ | refine g_return_n ?_ | refine g_exit ?_ | refine g_skip ?_)
      exact ret3 (K := [StP s room next ts, oE none 0 [], oE none 0 [], psl encE 12 A l]) rfl (resC1 rfl rfl) (resC1 rfl rfl) (resT rfl) ⟨none, 0, none, 0, rfl, rfl⟩
    | true =>
      first | refine g_seq (g_cond_f rfl (by first | rfl | (simp; done) | (simp; omega) | (simp; assumption)) ?_) | refine g_cond_f rfl (by first | rfl | (simp; done) | (simp; omega) | (simp; assumption)) ?_
      repeat (first | refine g_endt ?_ | refine g_end ?_ | refine g_then ?_ | refine g_in_normal ?_ | refine g_then_ret ?_ | refine g_in_ret ?_ | refine g_then_exit ?_ | refine g_in_exit rfl ?_ | refine g_in_exit_ne (by decide) ?_ | refine g_seq ?_ | refine g_region ?_ | refine g_block ?_ | refine g_ret ?_ | refine g_return_n ?_ | refine g_exit ?_ | refine g_skip ?_)
      repeat (first | refine g_endt ?_ | refine g_end ?_ | refine g_then ?_ | refine g_in_normal ?_ | refine g_then_ret ?_ | refine g_in_ret ?_ | refine g_then_exit ?_ | refine g_in_exit rfl ?_ | refine g_in_exit_ne (by decide) ?_ | refine g_seq ?_ | refine g_region ?_ | refine g_block ?_ | refine g_ret ?_ | refine g_return_n ?_ | refine g_exit ?_ | refine g_skip ?_)
      refine g_hideR fun Q_ hQ_ => ?_
      refine o_add (c := ((i + 1 : Nat) : Int)) rfl rfl (by omega) (by omega) (by omega) ?_
      refine o_move ?_
      refine g_end (G.imp (hQ_ .normal _) ?_)
      clear hQ_ Q_
      try refine g_then ?_
      repeat (first | refine g_endt ?_ | refine g_end ?_ | refine g_then ?_ | refine g_in_normal ?_ | refine g_then_ret ?_ | refine g_in_ret ?_ | refine g_then_exit ?_ | refine g_in_exit rfl ?_ | refine g_in_exit_ne (by decide) ?_ | refine g_seq ?_ | refine g_region ?_ | refine g_block ?_ | refine g_ret ?_ | refine g_return_n ?_ | refine g_exit ?_ | refine g_skip ?_)
      have hn : ∀ (j : Nat) (z : ElemD), j < i + 1 → l[j]? = some z → validE z = true := fun j z hj hz => by
        by_cases ej : j = i
        · subst ej; rw [he] at hz; cases hz; exact hv
        · exact hlow j z (by omega) hz
      exact g_meets ⟨i + 1, hin, hn⟩ (by show n - (i + 1) < n - i; omega) (Sat.mem ⟨rfl, rfl, rfl, rfl, rfl, rfl, rfl, rfl, rfl, trivial⟩)
  repeat (first | refine g_endt ?_ | refine g_end ?_ | refine g_then ?_ | refine g_in_normal ?_ | refine g_then_ret ?_ | refine g_in_ret ?_ | refine g_then_exit ?_ | refine g_in_exit rfl ?_ | refine g_in_exit_ne (by decide) ?_ | refine g_seq ?_ | refine g_region ?_ | refine g_block ?_ | refine g_ret ?_ | refine g_return_n ?_ | refine g_exit ?_ | refine g_skip ?_)
  first | refine g_seq (g_cond_f rfl (by simp; omega) ?_) | refine g_cond_f rfl (by simp; omega) ?_
  have hall : l.all validE = true := List.all_eq_true.2 fun e he => by
    obtain ⟨j, hj⟩ := List.mem_iff_getElem?.1 he
    exact hlow j e (by have := (List.getElem?_eq_some_iff.1 hj).1; omega) hj
  repeat (first | refine g_endt ?_ | refine g_end ?_ | refine g_then ?_ | refine g_in_normal ?_ | refine g_then_ret ?_ | refine g_in_ret ?_ | refine g_then_exit ?_ | refine g_in_exit rfl ?_ | refine g_in_exit_ne (by decide) ?_ | refine g_seq ?_ | refine g_region ?_ | refine g_block ?_ | refine g_ret ?_ | refine g_return_n ?_ | refine g_exit ?_ | refine g_skip ?_)
  refine g_hideR fun Q_ hQ_ => ?_
  refine o_move ?_
  refine o_len rfl rfl ?_
  refine o_move ?_
  refine g_end (G.imp (hQ_ .normal _) ?_)
  clear hQ_ Q_
  try refine g_then ?_
  repeat (first | refine g_endt ?_ | refine g_end ?_ | refine g_then ?_ | refine g_in_normal ?_ | refine g_then_ret ?_ | refine g_in_ret ?_ | refine g_then_exit ?_ | refine g_in_exit rfl ?_ | refine g_in_exit_ne (by decide) ?_ | refine g_seq ?_ | refine g_region ?_ | refine g_block ?_ | refine g_ret ?_ | refine g_return_n ?_ | refine g_exit ?_ | refine g_skip ?_)
  refine g_loop (σ := {i : Nat // i ≤ n ∧ ((sortE (l.take i)).length : Int) ≤ room}) (S := fun i => [(1, .slice A n c), (2, .pointer (some ⟨q, 0, none⟩)), (4, .pointer (some ⟨c4, 0, none⟩)), (5, .pointer (some ⟨c5, 0, none⟩)), (6, .int .i64 0), (7, .pointer (some ⟨c7, 0, none⟩)), (32, .slice A n c), (33, .int .i64 (n : Int)), (34, .int .i64 (i.1 : Int))])
    (H := fun i => SetAES w (sortE (l.take i.1)) :: cW1 c7 w :: cL1 c4 none 0 0 :: cL1 c5 none 0 0 :: cP1 q s :: psl encE 12 A l :: stC s room next a :: stK a ts ys) (μ := fun i => n - i.1) (s0 := ⟨0, Nat.zero_le _, by simpa [sortE] using hr⟩) (Sat.mem ⟨rfl, rfl, rfl, rfl, rfl, rfl, rfl, rfl, rfl, trivial⟩)
    (t := (inferInstance : Take _ (SetAES w [] :: cW1 c7 w :: cL1 c4 none 0 0 :: cL1 c5 none 0 0 :: cP1 q s :: psl encE 12 A l :: stC s room next a :: stK a ts ys) _)) ?_
  rintro ⟨k, hk, hroom⟩ ρ2
  dsimp only at hk hroom ⊢
  repeat (first | refine g_endt ?_ | refine g_end ?_ | refine g_then ?_ | refine g_in_normal ?_ | refine g_then_ret ?_ | refine g_in_ret ?_ | refine g_then_exit ?_ | refine g_in_exit rfl ?_ | refine g_in_exit_ne (by decide) ?_ | refine g_seq ?_ | refine g_region ?_ | refine g_block ?_ | refine g_ret ?_ | refine g_return_n ?_ | refine g_exit ?_ | refine g_skip ?_)
  refine g_hideR fun Q_ hQ_ => ?_
  refine o_lss rfl rfl ?_
  refine g_end (G.imp (hQ_ .normal _) ?_)
  clear hQ_ Q_
  try refine g_then ?_
  by_cases hkn : k < n
  · skip
    repeat (first | refine g_endt ?_ | refine g_end ?_ | refine g_then ?_ | refine g_in_normal ?_ | refine g_then_ret ?_ | refine g_in_ret ?_ | refine g_then_exit ?_ | refine g_in_exit rfl ?_ | refine g_in_exit_ne (by decide) ?_ | refine g_seq ?_ | refine g_region ?_ | refine g_block ?_ | refine g_ret ?_ | refine g_return_n ?_ | refine g_exit ?_ | refine g_skip ?_)
    first | refine g_seq (g_cond_t rfl (by first | rfl | (simp; done) | (simp; omega) | (simp; assumption)) ?_) | refine g_cond_t rfl (by first | rfl | (simp; done) | (simp; omega) | (simp; assumption)) ?_
    obtain ⟨e, he⟩ : ∃ e, l[k]? = some e := ⟨_, List.getElem?_eq_getElem (by omega)⟩
    have hsn := sortE_take l k e he
    have hsl := sortE_len' (l.take k)
    have htl : (l.take k).length ≤ k := by simp; omega
    have hss := sortE_srt' (l.take k)
    have hmo := sortE_mono l (k + 1)
    repeat (first | refine g_endt ?_ | refine g_end ?_ | refine g_then ?_ | refine g_in_normal ?_ | refine g_then_ret ?_ | refine g_in_ret ?_ | refine g_then_exit ?_ | refine g_in_exit rfl ?_ | refine g_in_exit_ne (by decide) ?_ | refine g_seq ?_ | refine g_region ?_ | refine g_block ?_ | refine g_ret ?_ | refine g_return_n ?_ | refine g_exit ?_ | refine g_skip ?_)
    refine g_hideR fun Q_ hQ_ => ?_
    refine o_indexR (ys := l) (i := k) rfl rfl rfl (by omega) hl rfl ?_
    refine o_loadE (ys := l) rfl rfl he ?_
    refine o_alloc fun c9 => ?_
    refine o_store (v := e.val) rfl rfl rfl rfl rfl ?_
    refine g_end (G.imp (hQ_ .normal _) ?_)
    clear hQ_ Q_
    try refine g_then ?_
    refine G.norm c9 e.val.cells rfl ?_
    repeat (first | refine g_endt ?_ | refine g_end ?_ | refine g_then ?_ | refine g_in_normal ?_ | refine g_then_ret ?_ | refine g_in_ret ?_ | refine g_then_exit ?_ | refine g_in_exit rfl ?_ | refine g_in_exit_ne (by decide) ?_ | refine g_seq ?_ | refine g_region ?_ | refine g_block ?_ | refine g_ret ?_ | refine g_return_n ?_ | refine g_exit ?_ | refine g_skip ?_)
    refine g_hideR fun Q_ hQ_ => ?_
    refine o_load1 (v := .pointer (some ⟨w, 0, none⟩)) rfl rfl ?_
    refine o_loadN (v := e.val) rfl rfl rfl ?_
    refine o_call (PutCES_spec w (sortE (l.take k)) e hss (by omega)) rfl rfl ?_
    rintro _ _ ⟨rfl, rfl⟩
    refine g_end (G.imp (hQ_ .normal _) ?_)
    clear hQ_ Q_
    try refine g_then ?_
    rw [← hsn]
    obtain ⟨zs, hzs⟩ : ∃ zs, sortE (l.take (k + 1)) = zs := ⟨_, rfl⟩
    rw [hzs] at hmo ⊢
    repeat (first | refine g_endt ?_ | refine g_end ?_ | refine g_then ?_ | refine g_in_normal ?_ | refine g_then_ret ?_ | refine g_in_ret ?_ | refine g_then_exit ?_ | refine g_in_exit rfl ?_ | refine g_in_exit_ne (by decide) ?_ | refine g_seq ?_ | refine g_region ?_ | refine g_block ?_ | refine g_ret ?_ | refine g_return_n ?_ | refine g_exit ?_ | refine g_skip ?_)
    refine g_hide fun Q_ hQ_ => ?_
    refine g_draw [1] [0,2,3,4,5,1,6] [cW1 c7 w, cP1 q s, stC s room next a] mixed rfl ?_
    refine ob_q rfl rfl ⟨_, fun X Q h => o_load1 (v := .pointer (some ⟨w, 0, none⟩)) rfl rfl (g_end (h _ _ ⟨rfl, rfl⟩)), ?_⟩
    refine ob_q rfl rfl ⟨_, fun X Q h => o_load1 (v := .pointer (some ⟨s, 0, none⟩)) rfl rfl (g_end (h _ _ ⟨rfl, rfl⟩)), ?_⟩
    refine ob_q rfl rfl ⟨_, fun X Q h => o_nil rfl (g_end (h _ _ ⟨rfl, rfl⟩)), ?_⟩
    first | refine ob_q rfl rfl ⟨_, fun X Q h => o_field rfl (g_end (h _ _ ⟨rfl, rfl⟩)), ?_⟩ | refine ob_q rfl rfl ⟨_, fun X Q h => o_fieldR rfl (by omega) (g_end (h _ _ ⟨rfl, rfl⟩)), ?_⟩
    refine ob_q rfl rfl ⟨_, fun X Q h => o_load1 (v := .int .i64 room) rfl rfl (g_end (h _ _ ⟨rfl, rfl⟩)), ?_⟩
    refine ob_l rfl rfl fun Qz hz => o_call (LenES_spec w zs) rfl rfl ?_
    rintro _ _ ⟨rfl, rfl⟩
    refine g_end (hz _ _ ⟨_, ob_fin, ?_⟩)
    clear hz Qz
    refine ob_q rfl rfl ⟨_, fun X Q h => o_gtr rfl rfl (g_end (h _ _ ⟨rfl, rfl⟩)), ?_⟩
    refine ob_nil ?_
    refine G.imp (hQ_ .normal _) ?_
    clear hQ_ Q_
    try refine g_then ?_
    by_cases hov : room < (zs.length : Int)
    · first | refine g_seq (g_cond_t rfl (by simpa using hov) ?_) | refine g_cond_t rfl (by simpa using hov) ?_
      rw [setD_full hall (by omega)]
      repeat (first | refine g_endt ?_ | refine g_end ?_ | refine g_then ?_ | refine g_in_normal ?_ | refine g_then_ret ?_ | refine g_in_ret ?_ | refine g_then_exit ?_ | refine g_in_exit rfl ?_ | refine g_in_exit_ne (by decide) ?_ | refine g_seq ?_ | refine g_region ?_ | refine g_block ?_ | refine g_ret ?_ | refine g_return_n ?_ | refine g_exit ?_ | refine g_skip ?_)
      refine g_hideR fun Q_ hQ_ => ?_
      refine o_store (v := .slice none 0 0) rfl rfl rfl rfl rfl ?_
      refine o_store (v := .slice none 0 0) rfl rfl rfl rfl rfl ?_
      refine o_assign ?_
      refine g_end (G.imp (hQ_ .normal _) ?_)
      clear hQ_ Q_
      try refine g_then ?_
      refine G.norm c4 #[.slice none 0 0] rfl ?_
      refine G.norm c5 #[.slice none 0 0] rfl ?_
      refine shutSt s room next ts a ys hst ?_
      refine G.nil_slice 25 encE 12 ?_
      refine G.nil_slice 25 encE 12 ?_
      repeat (first | refine g_endt ?_ | refine g_end ?_ | refine g_then ?_ | refine g_in_normal ?_ | refine g_then_ret ?_ | refine g_in_ret ?_ | refine g_then_exit ?_ | refine g_in_exit rfl ?_ | refine g_in_exit_ne (by decide) ?_ | refine g_seq ?_ | refine g_region ?_ | refine g_block ?_ | refine g_ret ?_ | refine g_return_n ?_ | refine g_exit ?_ | refine g_skip ?_)
      exact ret3 (K := [StP s room next ts, oE none 0 [], oE none 0 [], psl encE 12 A l]) rfl (resC1 rfl rfl) (resC1 rfl rfl) (resT rfl) ⟨none, 0, none, 0, rfl, rfl⟩
    · first | refine g_seq (g_cond_f rfl (by simpa using hov) ?_) | refine g_cond_f rfl (by simpa using hov) ?_
      repeat (first | refine g_endt ?_ | refine g_end ?_ | refine g_then ?_ | refine g_in_normal ?_ | refine g_then_ret ?_ | refine g_in_ret ?_ | refine g_then_exit ?_ | refine g_in_exit rfl ?_ | refine g_in_exit_ne (by decide) ?_ | refine g_seq ?_ | refine g_region ?_ | refine g_block ?_ | refine g_ret ?_ | refine g_return_n ?_ | refine g_exit ?_ | refine g_skip ?_)
      repeat (first | refine g_endt ?_ | refine g_end ?_ | refine g_then ?_ | refine g_in_normal ?_ | refine g_then_ret ?_ | refine g_in_ret ?_ | refine g_then_exit ?_ | refine g_in_exit rfl ?_ | refine g_in_exit_ne (by decide) ?_ | refine g_seq ?_ | refine g_region ?_ | refine g_block ?_ | refine g_ret ?_ | refine g_return_n ?_ | refine g_exit ?_ | refine g_skip ?_)
      refine g_hideR fun Q_ hQ_ => ?_
      refine o_add (c := ((k + 1 : Nat) : Int)) rfl rfl (by omega) (by omega) (by omega) ?_
      refine o_move ?_
      refine g_end (G.imp (hQ_ .normal _) ?_)
      clear hQ_ Q_
      try refine g_then ?_
      repeat (first | refine g_endt ?_ | refine g_end ?_ | refine g_then ?_ | refine g_in_normal ?_ | refine g_then_ret ?_ | refine g_in_ret ?_ | refine g_then_exit ?_ | refine g_in_exit rfl ?_ | refine g_in_exit_ne (by decide) ?_ | refine g_seq ?_ | refine g_region ?_ | refine g_block ?_ | refine g_ret ?_ | refine g_return_n ?_ | refine g_exit ?_ | refine g_skip ?_)
      subst hzs
      exact g_meets ⟨k + 1, hkn, by omega⟩ (by show n - (k + 1) < n - k; omega) (Sat.mem ⟨rfl, rfl, rfl, rfl, rfl, rfl, rfl, rfl, rfl, trivial⟩)
  repeat (first | refine g_endt ?_ | refine g_end ?_ | refine g_then ?_ | refine g_in_normal ?_ | refine g_then_ret ?_ | refine g_in_ret ?_ | refine g_then_exit ?_ | refine g_in_exit rfl ?_ | refine g_in_exit_ne (by decide) ?_ | refine g_seq ?_ | refine g_region ?_ | refine g_block ?_ | refine g_ret ?_ | refine g_return_n ?_ | refine g_exit ?_ | refine g_skip ?_)
  first | refine g_seq (g_cond_f rfl (by simp; omega) ?_) | refine g_cond_f rfl (by simp; omega) ?_
  rw [show l.take k = l from List.take_of_length_le (by omega)] at hroom ⊢
  have hws := sortE_srt' l
  have hwl := sortE_len' l
  rw [setD_ok hall (by omega)]
  generalize sortE l = want at hws hwl ⊢
  -- what goes
  repeat (first | refine g_endt ?_ | refine g_end ?_ | refine g_then ?_ | refine g_in_normal ?_ | refine g_then_ret ?_ | refine g_in_ret ?_ | refine g_then_exit ?_ | refine g_in_exit rfl ?_ | refine g_in_exit_ne (by decide) ?_ | refine g_seq ?_ | refine g_region ?_ | refine g_block ?_ | refine g_ret ?_ | refine g_return_n ?_ | refine g_exit ?_ | refine g_skip ?_)
  refine g_hideR fun Q_ hQ_ => ?_
  refine o_load1 (v := .pointer (some ⟨s, 0, none⟩)) rfl rfl ?_
  refine o_nil rfl ?_
  first | refine o_field rfl ?_ | refine o_fieldR rfl (by omega) ?_
  refine o_load1 (v := .pointer (some ⟨a.pt, 0, none⟩)) rfl rfl ?_
  refine o_call (AllMTE_spec a.pt) rfl rfl ?_
  rintro _ _ ⟨b, rfl, rfl⟩
  refine g_end (G.imp (hQ_ .normal _) ?_)
  clear hQ_ Q_
  try refine g_then ?_
  refine newGE c5 ?_
  repeat (first | refine g_endt ?_ | refine g_end ?_ | refine g_then ?_ | refine g_in_normal ?_ | refine g_then_ret ?_ | refine g_in_ret ?_ | refine g_then_exit ?_ | refine g_in_exit rfl ?_ | refine g_in_exit_ne (by decide) ?_ | refine g_seq ?_ | refine g_region ?_ | refine g_block ?_ | refine g_ret ?_ | refine g_return_n ?_ | refine g_exit ?_ | refine g_skip ?_)
  refine g_range (ps := [54, 55]) (lb := [.pointer (some ⟨b, 0, none⟩)]) (enc := PgTE.enc2) (xs := ts.map tgE) rfl
    (fun pre => GrowE c5 (goneD want (pre.map PgTE.v)) :: MapATE a.pt (ts.map tgE) :: pT b a.pt :: SetAES w want :: cW1 c7 w :: cL1 c4 none 0 0 :: cP1 q s :: psl encE 12 A l :: stC s room next a :: [SetAES a.pa ys, IdxP a.pi ElemD.id ys, IdxP a.pr ElemD.attr ys]) (fun _ _ => [pu False])
    (fun K => AllM1TE_iter a.pt b (ts.map tgE) (by simp; omega) _) (fun _ => rfl) (tk := (inferInstance : Take _ (GrowE c5 [] :: MapATE a.pt (ts.map tgE) :: pT b a.pt :: SetAES w want :: cW1 c7 w :: cL1 c4 none 0 0 :: cP1 q s :: psl encE 12 A l :: stC s room next a :: [SetAES a.pa ys, IdxP a.pi ElemD.id ys, IdxP a.pr ElemD.attr ys]) _)) ?_ ?_ ?_
  · intro w0 F ll rr pre x hp
    have hlen : pre.length < ts.length := by
      obtain ⟨t, ht⟩ := hp
      have := congrArg List.length ht
      simp at this
      omega
    obtain ⟨o, ho, rfl⟩ := List.mem_map.1 (hp.subset (by simp : x ∈ pre ++ [x]))
    have hgl : (goneD want (pre.map PgTE.v)).length ≤ (pre.map PgTE.v).length := List.length_filter_le _ _
    rw [List.length_map] at hgl
    have hsn := gone_snoc want (pre.map PgTE.v) o
    have hmp : (pre ++ [tgE o]).map PgTE.v = pre.map PgTE.v ++ [o] := by rw [List.map_append]; rfl
    rw [← hmp] at hsn
    generalize goneD want (pre.map PgTE.v) = gs at hgl hsn ⊢
    repeat (first | refine g_endt ?_ | refine g_end ?_ | refine g_then ?_ | refine g_in_normal ?_ | refine g_then_ret ?_ | refine g_in_ret ?_ | refine g_then_exit ?_ | refine g_in_exit rfl ?_ | refine g_in_exit_ne (by decide) ?_ | refine g_seq ?_ | refine g_region ?_ | refine g_block ?_ | refine g_ret ?_ | refine g_return_n ?_ | refine g_exit ?_ | refine g_skip ?_)
    refine g_hideR fun Q_ hQ_ => ?_
    refine o_alloc fun c13 => ?_
    refine o_store (v := o.val) rfl rfl rfl rfl rfl ?_
    refine g_end (G.imp (hQ_ .normal _) ?_)
    clear hQ_ Q_
    try refine g_then ?_
    refine G.norm c13 o.val.cells rfl ?_
    repeat (first | refine g_endt ?_ | refine g_end ?_ | refine g_then ?_ | refine g_in_normal ?_ | refine g_then_ret ?_ | refine g_in_ret ?_ | refine g_then_exit ?_ | refine g_in_exit rfl ?_ | refine g_in_exit_ne (by decide) ?_ | refine g_seq ?_ | refine g_region ?_ | refine g_block ?_ | refine g_ret ?_ | refine g_return_n ?_ | refine g_exit ?_ | refine g_skip ?_)
    refine g_begin ?_
    obtain ⟨r, hg⟩ : ∃ r, getM ElemD.cmp want o = r := ⟨_, rfl⟩
    repeat (first | refine g_endt ?_ | refine g_end ?_ | refine g_then ?_ | refine g_in_normal ?_ | refine g_then_ret ?_ | refine g_in_ret ?_ | refine g_then_exit ?_ | refine g_in_exit rfl ?_ | refine g_in_exit_ne (by decide) ?_ | refine g_seq ?_ | refine g_region ?_ | refine g_block ?_ | refine g_ret ?_ | refine g_return_n ?_ | refine g_exit ?_ | refine g_skip ?_)
    refine g_hideR fun Q_ hQ_ => ?_
    refine o_load1 (v := .pointer (some ⟨w, 0, none⟩)) rfl rfl ?_
    refine o_loadN (v := o.val) rfl rfl rfl ?_
    refine o_call (GetKES_spec w want o hws (by omega) hg) rfl rfl ?_
    rintro _ _ ⟨rfl, rfl⟩
    refine o_move ?_
    refine o_extract rfl rfl ?_
    refine o_extract rfl rfl ?_
    refine o_alloc fun c14 => ?_
    refine o_store (v := (r.getD ElemD.zero).val) rfl rfl rfl rfl rfl ?_
    refine o_assign ?_
    refine g_end (G.imp (hQ_ .normal _) ?_)
    clear hQ_ Q_
    try refine g_then ?_
    refine G.norm c14 (r.getD ElemD.zero).val.cells rfl ?_
    repeat (first | refine g_endt ?_ | refine g_end ?_ | refine g_then ?_ | refine g_in_normal ?_ | refine g_then_ret ?_ | refine g_in_ret ?_ | refine g_then_exit ?_ | refine g_in_exit rfl ?_ | refine g_in_exit_ne (by decide) ?_ | refine g_seq ?_ | refine g_block ?_ | refine g_ret ?_ | refine g_return_n ?_ | refine g_exit ?_ | refine g_skip ?_)
    refine g_cutk (σ := Unit) (ds' := []) (S := fun _ => [(2, .pointer (some ⟨q, 0, none⟩)), (5, .pointer (some ⟨c5, 0, none⟩)), (13, .pointer (some ⟨c13, 0, none⟩)), (70, .bool (!staysD want o))]) (H := fun _ => cellsB c13 o.val.cells 25 :: GrowE c5 gs :: MapATE a.pt (ts.map tgE) :: pT b a.pt :: SetAES w want :: cW1 c7 w :: cL1 c4 none 0 0 :: cP1 q s :: psl encE 12 A l :: stC s room next a :: [SetAES a.pa ys, IdxP a.pi ElemD.id ys, IdxP a.pr ElemD.attr ys]) (ok := fun _ => True) ?_ ?_
    · cases r with
      | none =>
        rw [show staysD want o = false by unfold staysD; rw [hg]; rfl]
        repeat (first | refine g_endt ?_ | refine g_end ?_ | refine g_then ?_ | refine g_in_normal ?_ | refine g_then_ret ?_ | refine g_in_ret ?_ | refine g_then_exit ?_ | refine g_in_exit rfl ?_ | refine g_in_exit_ne (by decide) ?_ | refine g_seq ?_ | refine g_region ?_ | refine g_block ?_ | refine g_ret ?_ | refine g_return_n ?_ | refine g_exit ?_ | refine g_skip ?_)
        refine g_hideR fun Q_ hQ_ => ?_
        refine o_move ?_
        refine o_not rfl ?_
        refine o_move ?_
        first | (refine o_want rfl rfl rfl rfl rfl ?_; (first | refine o_field rfl ?_ | refine o_fieldR rfl (by omega) ?_)) | refine o_unwanted rfl rfl rfl rfl rfl ?_ | refine o_undef rfl rfl rfl ?_
        first | (refine o_want rfl rfl rfl rfl rfl ?_; (first | refine o_load1 rfl rfl ?_ | refine o_loadE0 rfl (by assumption) rfl ?_ | refine o_loadE1 rfl (by assumption) rfl ?_)) | refine o_unwanted rfl rfl rfl rfl rfl ?_ | refine o_undef rfl rfl rfl ?_
        first | (refine o_want rfl rfl rfl rfl rfl ?_; (first | refine o_field rfl ?_ | refine o_fieldR rfl (by omega) ?_)) | refine o_unwanted rfl rfl rfl rfl rfl ?_ | refine o_undef rfl rfl rfl ?_
        first | (refine o_want rfl rfl rfl rfl rfl ?_; (first | refine o_load1 rfl rfl ?_ | refine o_loadE0 rfl (by assumption) rfl ?_ | refine o_loadE1 rfl (by assumption) rfl ?_)) | refine o_unwanted rfl rfl rfl rfl rfl ?_ | refine o_undef rfl rfl rfl ?_
        first | refine o_unwanted rfl rfl rfl rfl rfl ?_ | refine o_undef rfl rfl rfl ?_
        first | refine o_pick_t rfl rfl ?_ | refine o_pick_f rfl rfl ?_
        refine g_end (G.imp (hQ_ .normal _) ?_)
        clear hQ_ Q_
        try refine g_then ?_
        exact g_meets () trivial (Sat.mem ⟨rfl, rfl, rfl, rfl, trivial⟩)
      | some x =>
        rw [show staysD want o = (x.goal == o.goal) by unfold staysD; rw [hg]; rfl]
        refine G.norm c14 x.val.cells rfl ?_
        repeat (first | refine g_endt ?_ | refine g_end ?_ | refine g_then ?_ | refine g_in_normal ?_ | refine g_then_ret ?_ | refine g_in_ret ?_ | refine g_then_exit ?_ | refine g_in_exit rfl ?_ | refine g_in_exit_ne (by decide) ?_ | refine g_seq ?_ | refine g_region ?_ | refine g_block ?_ | refine g_ret ?_ | refine g_return_n ?_ | refine g_exit ?_ | refine g_skip ?_)
        refine g_hideR fun Q_ hQ_ => ?_
        refine o_move ?_
        refine o_not rfl ?_
        refine o_move ?_
        first | (refine o_want rfl rfl rfl rfl rfl ?_; (first | refine o_field rfl ?_ | refine o_fieldR rfl (by omega) ?_)) | refine o_unwanted rfl rfl rfl rfl rfl ?_ | refine o_undef rfl rfl rfl ?_
        refine o_want rfl rfl rfl rfl rfl (o_load1 (v := .bool x.goal) rfl rfl ?_)
        first | (refine o_want rfl rfl rfl rfl rfl ?_; (first | refine o_field rfl ?_ | refine o_fieldR rfl (by omega) ?_)) | refine o_unwanted rfl rfl rfl rfl rfl ?_ | refine o_undef rfl rfl rfl ?_
        refine o_want rfl rfl rfl rfl rfl (o_load1 (v := .bool o.goal) rfl rfl ?_)
        refine o_want rfl rfl rfl rfl rfl (o_neqty rfl rfl (eq_bool x.goal o.goal) ?_)
        first | refine o_pick_t rfl rfl ?_ | refine o_pick_f rfl rfl ?_
        refine g_end (G.imp (hQ_ .normal _) ?_)
        clear hQ_ Q_
        try refine g_then ?_
        exact g_meets () trivial (Sat.mem ⟨rfl, rfl, rfl, rfl, trivial⟩)
    intro _ ρ3 _
    cases hb : staysD want o with
    | true =>
      rw [hb, if_pos rfl, List.append_nil] at hsn
      rw [← hsn]
      first | refine g_seq (g_cond_f rfl (by first | rfl | (simp; done) | (simp; omega) | (simp; assumption)) ?_) | refine g_cond_f rfl (by first | rfl | (simp; done) | (simp; omega) | (simp; assumption)) ?_
      repeat (first | refine g_endt ?_ | refine g_end ?_ | refine g_then ?_ | refine g_in_normal ?_ | refine g_then_ret ?_ | refine g_in_ret ?_ | refine g_then_exit ?_ | refine g_in_exit rfl ?_ | refine g_in_exit_ne (by decide) ?_ | refine g_seq ?_ | refine g_region ?_ | refine g_block ?_ | refine g_ret ?_ | refine g_return_n ?_ | refine g_exit ?_ | refine g_skip ?_)
      exact g_next
    | false =>
      rw [hb, if_neg (by decide)] at hsn
      first | refine g_seq (g_cond_t rfl (by first | rfl | (simp; done) | (simp; omega) | (simp; assumption)) ?_) | refine g_cond_t rfl (by first | rfl | (simp; done) | (simp; omega) | (simp; assumption)) ?_
      refine openGE c5 gs fun S e => ?_
      repeat (first | refine g_endt ?_ | refine g_end ?_ | refine g_then ?_ | refine g_in_normal ?_ | refine g_then_ret ?_ | refine g_in_ret ?_ | refine g_then_exit ?_ | refine g_in_exit rfl ?_ | refine g_in_exit_ne (by decide) ?_ | refine g_seq ?_ | refine g_region ?_ | refine g_block ?_ | refine g_ret ?_ | refine g_return_n ?_ | refine g_exit ?_ | refine g_skip ?_)
      refine g_hideR fun Q_ hQ_ => ?_
      refine o_load1 (v := .slice S gs.length e) rfl rfl ?_
      refine o_loadN (v := o.val) rfl rfl rfl ?_
      refine o_litP (e := 25) encE [o] (o).val.cells (fun w => by kernel_rfl) (by simp [encE]) (by simp [maxLen]) fun _ => ?_
      refine o_append (xs := gs) (ys := [o]) (by first | rfl | (simp only [List.length_map, List.length_take, List.length_append]; first | rfl | (congr 1; omega))) rfl rfl rfl rfl (fun _ => .inr trivial) (by simp [maxLen]; omega) (by simp; omega) fun S2 e2 => ?_
      refine o_store (v := .slice S2 (gs.length + 1) e2) rfl rfl rfl rfl rfl ?_
      refine g_end (G.imp (hQ_ .normal _) ?_)
      clear hQ_ Q_
      try refine g_then ?_
      refine G.norm c5 #[.slice S2 (gs.length + 1) e2] rfl ?_
      refine shutGE c5 (gs ++ [o]) S2 e2 (n := gs.length + 1) (by simp) ?_
      rw [← hsn]
      repeat (first | refine g_endt ?_ | refine g_end ?_ | refine g_then ?_ | refine g_in_normal ?_ | refine g_then_ret ?_ | refine g_in_ret ?_ | refine g_then_exit ?_ | refine g_in_exit rfl ?_ | refine g_in_exit_ne (by decide) ?_ | refine g_seq ?_ | refine g_region ?_ | refine g_block ?_ | refine g_ret ?_ | refine g_return_n ?_ | refine g_exit ?_ | refine g_skip ?_)
      exact g_next
  · intro D
    rw [show (ts.map tgE).map PgTE.v = ts by rw [List.map_map]; exact List.map_id ts]
    have hgl : (goneD want ts).length ≤ ts.length := List.length_filter_le _ _
    obtain ⟨gs, hgs⟩ : ∃ gs, goneD want ts = gs := ⟨_, rfl⟩
    have hrem : rem ts gs = stayD want ts := by rw [← hgs]; exact rem_gone hst.tags
    rw [hgs] at hgl ⊢
    refine openGE c5 gs fun S e => ?_
    repeat (first | refine g_endt ?_ | refine g_end ?_ | refine g_then ?_ | refine g_in_normal ?_ | refine g_then_ret ?_ | refine g_in_ret ?_ | refine g_then_exit ?_ | refine g_in_exit rfl ?_ | refine g_in_exit_ne (by decide) ?_ | refine g_seq ?_ | refine g_region ?_ | refine g_block ?_ | refine g_ret ?_ | refine g_return_n ?_ | refine g_exit ?_ | refine g_skip ?_)
    refine g_hideR fun Q_ hQ_ => ?_
    refine o_load1 (v := .slice S gs.length e) rfl rfl ?_
    refine o_len rfl rfl ?_
    refine o_move ?_
    refine g_end (G.imp (hQ_ .normal _) ?_)
    clear hQ_ Q_
    try refine g_then ?_
    repeat (first | refine g_endt ?_ | refine g_end ?_ | refine g_then ?_ | refine g_in_normal ?_ | refine g_then_ret ?_ | refine g_in_ret ?_ | refine g_then_exit ?_ | refine g_in_exit rfl ?_ | refine g_in_exit_ne (by decide) ?_ | refine g_seq ?_ | refine g_region ?_ | refine g_block ?_ | refine g_ret ?_ | refine g_return_n ?_ | refine g_exit ?_ | refine g_skip ?_)
    refine g_loop (σ := {t : Nat × List ElemD × List ElemD // t.1 ≤ gs.length ∧ t.2.1 = rem ts (gs.take t.1) ∧ StI next t.2.1 t.2.2}) (S := fun t => [(2, .pointer (some ⟨q, 0, none⟩)), (4, .pointer (some ⟨c4, 0, none⟩)), (5, .pointer (some ⟨c5, 0, none⟩)), (6, .int .i64 0), (7, .pointer (some ⟨c7, 0, none⟩)), (75, .slice S gs.length e), (76, .int .i64 (gs.length : Int)), (77, .int .i64 (t.1.1 : Int))])
      (H := fun t => cL1 c5 S gs.length e :: oE S e gs :: SetAES w want :: cW1 c7 w :: cL1 c4 none 0 0 :: cP1 q s :: psl encE 12 A l :: stC s room next a :: stK a t.1.2.1 t.1.2.2) (μ := fun t => gs.length - t.1.1) (s0 := ⟨(0, ts, ys), Nat.zero_le _, by rw [List.take_zero, rem_nil], hst⟩) (Sat.mem ⟨rfl, rfl, rfl, rfl, rfl, rfl, rfl, rfl, trivial⟩)
      (t := (inferInstance : Take _ (cL1 c5 S gs.length e :: oE S e gs :: SetAES w want :: cW1 c7 w :: cL1 c4 none 0 0 :: cP1 q s :: psl encE 12 A l :: stC s room next a :: stK a ts ys) _)) ?_
    rintro ⟨⟨i, rs, ys2⟩, hi, hrs, hst2⟩ ρ3
    dsimp only at hi hrs hst2 ⊢
    have hrl : rs.length ≤ ts.length := by rw [hrs]; exact List.length_filter_le _ _
    have hyl2 := hst2.len
    repeat (first | refine g_endt ?_ | refine g_end ?_ | refine g_then ?_ | refine g_in_normal ?_ | refine g_then_ret ?_ | refine g_in_ret ?_ | refine g_then_exit ?_ | refine g_in_exit rfl ?_ | refine g_in_exit_ne (by decide) ?_ | refine g_seq ?_ | refine g_region ?_ | refine g_block ?_ | refine g_ret ?_ | refine g_return_n ?_ | refine g_exit ?_ | refine g_skip ?_)
    refine g_hideR fun Q_ hQ_ => ?_
    refine o_lss rfl rfl ?_
    refine g_end (G.imp (hQ_ .normal _) ?_)
    clear hQ_ Q_
    try refine g_then ?_
    by_cases hig : i < gs.length
    · skip
      repeat (first | refine g_endt ?_ | refine g_end ?_ | refine g_then ?_ | refine g_in_normal ?_ | refine g_then_ret ?_ | refine g_in_ret ?_ | refine g_then_exit ?_ | refine g_in_exit rfl ?_ | refine g_in_exit_ne (by decide) ?_ | refine g_seq ?_ | refine g_region ?_ | refine g_block ?_ | refine g_ret ?_ | refine g_return_n ?_ | refine g_exit ?_ | refine g_skip ?_)
      first | refine g_seq (g_cond_t rfl (by first | rfl | (simp; done) | (simp; omega) | (simp; assumption)) ?_) | refine g_cond_t rfl (by first | rfl | (simp; done) | (simp; omega) | (simp; assumption)) ?_
      obtain ⟨g, hg⟩ : ∃ g, gs[i]? = some g := ⟨_, List.getElem?_eq_getElem hig⟩
      have hgm : g ∈ rs := by rw [hrs, ← hgs]; rw [← hgs] at hg; exact mem_rem hst.tags hg
      have hnx : noTag rs g.tag = rem ts (gs.take (i + 1)) := by rw [hrs, List.take_add_one, hg]; exact (rem_snoc ts _ g).symm
      have hst3 := hst2.drop hgm
      repeat (first | refine g_endt ?_ | refine g_end ?_ | refine g_then ?_ | refine g_in_normal ?_ | refine g_then_ret ?_ | refine g_in_ret ?_ | refine g_then_exit ?_ | refine g_in_exit rfl ?_ | refine g_in_exit_ne (by decide) ?_ | refine g_seq ?_ | refine g_region ?_ | refine g_block ?_ | refine g_ret ?_ | refine g_return_n ?_ | refine g_exit ?_ | refine g_skip ?_)
      refine g_hideR fun Q_ hQ_ => ?_
      refine o_indexR (ys := gs) (i := i) rfl rfl rfl hig rfl rfl ?_
      refine o_loadE (ys := gs) rfl rfl hg ?_
      refine o_alloc fun c17 => ?_
      refine o_store (v := g.val) rfl rfl rfl rfl rfl ?_
      refine g_end (G.imp (hQ_ .normal _) ?_)
      clear hQ_ Q_
      try refine g_then ?_
      refine G.norm c17 g.val.cells rfl ?_
      repeat (first | refine g_endt ?_ | refine g_end ?_ | refine g_then ?_ | refine g_in_normal ?_ | refine g_then_ret ?_ | refine g_in_ret ?_ | refine g_then_exit ?_ | refine g_in_exit rfl ?_ | refine g_in_exit_ne (by decide) ?_ | refine g_seq ?_ | refine g_region ?_ | refine g_block ?_ | refine g_ret ?_ | refine g_return_n ?_ | refine g_exit ?_ | refine g_skip ?_)
      refine g_hideR fun Q_ hQ_ => ?_
      refine o_load1 (v := .pointer (some ⟨s, 0, none⟩)) rfl rfl ?_
      refine o_loadN (v := g.val) rfl rfl rfl ?_
      refine o_call (drop10_spec s room next a rs ys2 g hst2.srt hst2.tags (by omega) (by omega) (hst2.perm.mem_iff.2 hgm)) rfl rfl ?_
      rintro _ _ rfl
      refine g_end (G.imp (hQ_ .normal _) ?_)
      clear hQ_ Q_
      try refine g_then ?_
      repeat (first | refine g_endt ?_ | refine g_end ?_ | refine g_then ?_ | refine g_in_normal ?_ | refine g_then_ret ?_ | refine g_in_ret ?_ | refine g_then_exit ?_ | refine g_in_exit rfl ?_ | refine g_in_exit_ne (by decide) ?_ | refine g_seq ?_ | refine g_region ?_ | refine g_block ?_ | refine g_ret ?_ | refine g_return_n ?_ | refine g_exit ?_ | refine g_skip ?_)
      repeat (first | refine g_endt ?_ | refine g_end ?_ | refine g_then ?_ | refine g_in_normal ?_ | refine g_then_ret ?_ | refine g_in_ret ?_ | refine g_then_exit ?_ | refine g_in_exit rfl ?_ | refine g_in_exit_ne (by decide) ?_ | refine g_seq ?_ | refine g_region ?_ | refine g_block ?_ | refine g_ret ?_ | refine g_return_n ?_ | refine g_exit ?_ | refine g_skip ?_)
      refine g_hideR fun Q_ hQ_ => ?_
      refine o_add (c := ((i + 1 : Nat) : Int)) rfl rfl (by omega) (by omega) (by omega) ?_
      refine o_move ?_
      refine g_end (G.imp (hQ_ .normal _) ?_)
      clear hQ_ Q_
      try refine g_then ?_
      repeat (first | refine g_endt ?_ | refine g_end ?_ | refine g_then ?_ | refine g_in_normal ?_ | refine g_then_ret ?_ | refine g_in_ret ?_ | refine g_then_exit ?_ | refine g_in_exit rfl ?_ | refine g_in_exit_ne (by decide) ?_ | refine g_seq ?_ | refine g_region ?_ | refine g_block ?_ | refine g_ret ?_ | refine g_return_n ?_ | refine g_exit ?_ | refine g_skip ?_)
      exact g_meets ⟨(i + 1, noTag rs g.tag, delC ElemD.cmp ys2 g), hig, hnx, hst3⟩ (by show gs.length - (i + 1) < gs.length - i; omega) (Sat.mem ⟨rfl, rfl, rfl, rfl, rfl, rfl, rfl, rfl, trivial⟩)
    repeat (first | refine g_endt ?_ | refine g_end ?_ | refine g_then ?_ | refine g_in_normal ?_ | refine g_then_ret ?_ | refine g_in_ret ?_ | refine g_then_exit ?_ | refine g_in_exit rfl ?_ | refine g_in_exit_ne (by decide) ?_ | refine g_seq ?_ | refine g_region ?_ | refine g_block ?_ | refine g_ret ?_ | refine g_return_n ?_ | refine g_exit ?_ | refine g_skip ?_)
    first | refine g_seq (g_cond_f rfl (by simp; omega) ?_) | refine g_cond_f rfl (by simp; omega) ?_
    rw [show gs.take i = gs from List.take_of_length_le (by omega), hrem] at hrs
    subst hrs
    -- what comes
    repeat (first | refine g_endt ?_ | refine g_end ?_ | refine g_then ?_ | refine g_in_normal ?_ | refine g_then_ret ?_ | refine g_in_ret ?_ | refine g_then_exit ?_ | refine g_in_exit rfl ?_ | refine g_in_exit_ne (by decide) ?_ | refine g_seq ?_ | refine g_region ?_ | refine g_block ?_ | refine g_ret ?_ | refine g_return_n ?_ | refine g_exit ?_ | refine g_skip ?_)
    refine g_hideR fun Q_ hQ_ => ?_
    refine o_load1 (v := .pointer (some ⟨w, 0, none⟩)) rfl rfl ?_
    refine o_call (AllES_spec w) rfl rfl ?_
    rintro _ _ ⟨b2, rfl, rfl⟩
    refine g_end (G.imp (hQ_ .normal _) ?_)
    clear hQ_ Q_
    try refine g_then ?_
    refine newGE c4 ?_
    refine shutSt s room next (stayD want ts) a ys2 hst2 ?_
    repeat (first | refine g_endt ?_ | refine g_end ?_ | refine g_then ?_ | refine g_in_normal ?_ | refine g_then_ret ?_ | refine g_in_ret ?_ | refine g_then_exit ?_ | refine g_in_exit rfl ?_ | refine g_in_exit_ne (by decide) ?_ | refine g_seq ?_ | refine g_region ?_ | refine g_block ?_ | refine g_ret ?_ | refine g_return_n ?_ | refine g_exit ?_ | refine g_skip ?_)
    refine g_range (ps := [87]) (lb := [.pointer (some ⟨b2, 0, none⟩)]) (enc := ElemD.enc') (xs := want) rfl
      (fun pre => GrowE c4 (tagD next (freshD pre ts)) :: StP s room (nxD next (freshD pre ts).length) (tsD (stayD want ts) (tagD next (freshD pre ts))) :: SetAES w want :: pE b2 w :: cL1 c5 S gs.length e :: oE S e gs :: cP1 q s :: psl encE 12 A l :: []) (fun _ _ => [pu False])
      (fun K => All1ES_iter w b2 want (by omega) _) (fun _ => rfl) (tk := (inferInstance : Take _ (GrowE c4 [] :: StP s room next (stayD want ts) :: SetAES w want :: pE b2 w :: cL1 c5 S gs.length e :: oE S e gs :: cP1 q s :: psl encE 12 A l :: []) _)) ?_ ?_ ?_
    · intro w0 F ll rr pre x hp
      rw [nxD_eq, tsD_eq]
      have hlen : pre.length < want.length := by
        obtain ⟨t, ht⟩ := hp
        have := congrArg List.length ht
        simp at this
        omega
      have hfl : (freshD pre ts).length ≤ pre.length := List.length_filter_le _ _
      have hsl : (stayD want ts).length ≤ ts.length := List.length_filter_le _ _
      have htl := tagD_len next (freshD pre ts)
      have hfs := fresh_snoc pre ts x
      have hts2 := tagD_snoc next (freshD pre ts) x
      have hnh := fun n => new_has (n := n) hws hst hp
      obtain ⟨nk, hnk⟩ : ∃ nk : Int, next + ((freshD pre ts).length : Int) = nk := ⟨_, rfl⟩
      rw [hnk] at hts2 ⊢
      obtain ⟨ad, had⟩ : ∃ ad, tagD next (freshD pre ts) = ad := ⟨_, rfl⟩
      have hnh1 := hnh next
      rw [had] at htl hts2 hnh1 ⊢
      refine openSt s room nk (stayD want ts ++ ad) fun a3 ys3 hst3 => ?_
      have hh : hasC ElemD.cmp ys3 x = staysD ts x := by rw [hst3.has, hnh1]
      have hyl3 := hst3.len
      rw [List.length_append] at hyl3
      repeat (first | refine g_endt ?_ | refine g_end ?_ | refine g_then ?_ | refine g_in_normal ?_ | refine g_then_ret ?_ | refine g_in_ret ?_ | refine g_then_exit ?_ | refine g_in_exit rfl ?_ | refine g_in_exit_ne (by decide) ?_ | refine g_seq ?_ | refine g_region ?_ | refine g_block ?_ | refine g_ret ?_ | refine g_return_n ?_ | refine g_exit ?_ | refine g_skip ?_)
      refine g_hideR fun Q_ hQ_ => ?_
      refine o_alloc fun c18 => ?_
      refine o_store (v := x.val) rfl rfl rfl rfl rfl ?_
      refine g_end (G.imp (hQ_ .normal _) ?_)
      clear hQ_ Q_
      try refine g_then ?_
      refine G.norm c18 x.val.cells rfl ?_
      repeat (first | refine g_endt ?_ | refine g_end ?_ | refine g_then ?_ | refine g_in_normal ?_ | refine g_then_ret ?_ | refine g_in_ret ?_ | refine g_then_exit ?_ | refine g_in_exit rfl ?_ | refine g_in_exit_ne (by decide) ?_ | refine g_seq ?_ | refine g_region ?_ | refine g_block ?_ | refine g_ret ?_ | refine g_return_n ?_ | refine g_exit ?_ | refine g_skip ?_)
      refine g_begin ?_
      repeat (first | refine g_endt ?_ | refine g_end ?_ | refine g_then ?_ | refine g_in_normal ?_ | refine g_then_ret ?_ | refine g_in_ret ?_ | refine g_then_exit ?_ | refine g_in_exit rfl ?_ | refine g_in_exit_ne (by decide) ?_ | refine g_seq ?_ | refine g_region ?_ | refine g_block ?_ | refine g_ret ?_ | refine g_return_n ?_ | refine g_exit ?_ | refine g_skip ?_)
      refine g_hide fun Q_ hQ_ => ?_
      refine g_draw [5] [0,1,2,3,4,5,6,7,8,9,10] [cP1 q s, stC s room nk a3, cellsB c18 x.val.cells 25] mixed rfl ?_
      refine ob_q rfl rfl ⟨_, fun X Q h => o_load1 (v := .pointer (some ⟨s, 0, none⟩)) rfl rfl (g_end (h _ _ ⟨rfl, rfl⟩)), ?_⟩
      refine ob_q rfl rfl ⟨_, fun X Q h => o_nil rfl (g_end (h _ _ ⟨rfl, rfl⟩)), ?_⟩
      first | refine ob_q rfl rfl ⟨_, fun X Q h => o_field rfl (g_end (h _ _ ⟨rfl, rfl⟩)), ?_⟩ | refine ob_q rfl rfl ⟨_, fun X Q h => o_fieldR rfl (by omega) (g_end (h _ _ ⟨rfl, rfl⟩)), ?_⟩
      refine ob_q rfl rfl ⟨_, fun X Q h => o_load1 (v := .pointer (some ⟨a3.pa, 0, none⟩)) rfl rfl (g_end (h _ _ ⟨rfl, rfl⟩)), ?_⟩
      refine ob_q rfl rfl ⟨_, fun X Q h => o_loadN (v := x.val) rfl rfl rfl (g_end (h _ _ ⟨rfl, rfl⟩)), ?_⟩
      refine ob_l rfl rfl fun Qz hz => o_call (PlaceCES_spec a3.pa ys3 x hst3.srt (by omega)) rfl rfl ?_
      rintro _ _ ⟨k3, rfl, rfl⟩
      refine g_end (hz _ _ ⟨_, ob_fin, ?_⟩)
      clear hz Qz
      refine ob_q rfl rfl ⟨_, fun X Q h => o_move (g_end (h _ _ ⟨rfl, rfl⟩)), ?_⟩
      refine ob_q rfl rfl ⟨_, fun X Q h => o_extract rfl rfl (g_end (h _ _ ⟨rfl, rfl⟩)), ?_⟩
      refine ob_q rfl rfl ⟨_, fun X Q h => o_extract rfl rfl (g_end (h _ _ ⟨rfl, rfl⟩)), ?_⟩
      refine ob_q rfl rfl ⟨_, fun X Q h => o_assign (g_end (h _ _ ⟨rfl, rfl⟩)), ?_⟩
      refine ob_q rfl rfl ⟨_, fun X Q h => o_assign (g_end (h _ _ ⟨rfl, rfl⟩)), ?_⟩
      refine ob_nil ?_
      refine G.imp (hQ_ .normal _) ?_
      clear hQ_ Q_
      try refine g_then ?_
      rw [hh]
      repeat (first | refine g_endt ?_ | refine g_end ?_ | refine g_then ?_ | refine g_in_normal ?_ | refine g_then_ret ?_ | refine g_in_ret ?_ | refine g_then_exit ?_ | refine g_in_exit rfl ?_ | refine g_in_exit_ne (by decide) ?_ | refine g_seq ?_ | refine g_region ?_ | refine g_block ?_ | refine g_ret ?_ | refine g_return_n ?_ | refine g_exit ?_ | refine g_skip ?_)
      refine g_hideR fun Q_ hQ_ => ?_
      refine o_move ?_
      refine g_end (G.imp (hQ_ .normal _) ?_)
      clear hQ_ Q_
      try refine g_then ?_
      cases hb : staysD ts x with
      | true =>
        rw [hb, if_pos rfl, List.append_nil] at hfs
        first | refine g_seq (g_cond_t rfl (by first | rfl | (simp; done) | (simp; omega) | (simp; assumption)) ?_) | refine g_cond_t rfl (by first | rfl | (simp; done) | (simp; omega) | (simp; assumption)) ?_
        refine shutSt s room nk (stayD want ts ++ ad) a3 ys3 hst3 ?_
        repeat (first | refine g_endt ?_ | refine g_end ?_ | refine g_then ?_ | refine g_in_normal ?_ | refine g_then_ret ?_ | refine g_in_ret ?_ | refine g_then_exit ?_ | refine g_in_exit rfl ?_ | refine g_in_exit_ne (by decide) ?_ | refine g_seq ?_ | refine g_region ?_ | refine g_block ?_ | refine g_ret ?_ | refine g_return_n ?_ | refine g_exit ?_ | refine g_skip ?_)
        exact g_next (tk := by
          show Take _ (GrowE c4 (tagD next (freshD (pre ++ [x]) ts)) :: StP s room (nxD next (freshD (pre ++ [x]) ts).length) (tsD (stayD want ts) (tagD next (freshD (pre ++ [x]) ts))) :: _) _
          rw [hfs, nxD_eq, tsD_eq, hnk, had]
          infer_instance)
      | false =>
        rw [hb, if_neg (by decide)] at hfs
        first | refine g_seq (g_cond_f rfl (by first | rfl | (simp; done) | (simp; omega) | (simp; assumption)) ?_) | refine g_cond_f rfl (by first | rfl | (simp; done) | (simp; omega) | (simp; assumption)) ?_
        obtain ⟨y, hy⟩ : ∃ y : ElemD, ({ x with tag := nk } : ElemD) = y := ⟨_, rfl⟩
        have hytag : y.tag = nk := by rw [← hy]
        have hyn : hasC ElemD.cmp ys3 y = false := by rw [← hy]; exact hh.trans hb
        have hst4 := hst3.put hyn hytag
        have hlt : ∀ o ∈ stayD want ts ++ ad, o.tag < y.tag := fun o ho => by rw [hytag]; exact hst3.lt o ho
        repeat (first | refine g_endt ?_ | refine g_end ?_ | refine g_then ?_ | refine g_in_normal ?_ | refine g_then_ret ?_ | refine g_in_ret ?_ | refine g_then_exit ?_ | refine g_in_exit rfl ?_ | refine g_in_exit_ne (by decide) ?_ | refine g_seq ?_ | refine g_region ?_ | refine g_block ?_ | refine g_ret ?_ | refine g_return_n ?_ | refine g_exit ?_ | refine g_skip ?_)
        repeat (first | refine g_endt ?_ | refine g_end ?_ | refine g_then ?_ | refine g_in_normal ?_ | refine g_then_ret ?_ | refine g_in_ret ?_ | refine g_then_exit ?_ | refine g_in_exit rfl ?_ | refine g_in_exit_ne (by decide) ?_ | refine g_seq ?_ | refine g_region ?_ | refine g_block ?_ | refine g_ret ?_ | refine g_return_n ?_ | refine g_exit ?_ | refine g_skip ?_)
        refine g_hideR fun Q_ hQ_ => ?_
        refine o_load1 (v := .pointer (some ⟨s, 0, none⟩)) rfl rfl ?_
        refine o_nil rfl ?_
        first | refine o_field rfl ?_ | refine o_fieldR rfl (by omega) ?_
        refine o_load1 (v := .int .i64 nk) rfl rfl ?_
        first | refine o_field rfl ?_ | refine o_fieldR rfl (by omega) ?_
        refine o_store (v := .int .i64 nk) rfl rfl rfl rfl rfl ?_
        refine g_end (G.imp (hQ_ .normal _) ?_)
        clear hQ_ Q_
        try refine g_then ?_
        refine G.norm c18 ({ x with tag := nk } : ElemD).val.cells rfl ?_
        rw [hy]
        repeat (first | refine g_endt ?_ | refine g_end ?_ | refine g_then ?_ | refine g_in_normal ?_ | refine g_then_ret ?_ | refine g_in_ret ?_ | refine g_then_exit ?_ | refine g_in_exit rfl ?_ | refine g_in_exit_ne (by decide) ?_ | refine g_seq ?_ | refine g_region ?_ | refine g_block ?_ | refine g_ret ?_ | refine g_return_n ?_ | refine g_exit ?_ | refine g_skip ?_)
        refine g_hideR fun Q_ hQ_ => ?_
        refine o_load1 (v := .pointer (some ⟨s, 0, none⟩)) rfl rfl ?_
        refine o_nil rfl ?_
        first | refine o_field rfl ?_ | refine o_fieldR rfl (by omega) ?_
        refine o_load1 (v := .int .i64 nk) rfl rfl ?_
        refine o_add (c := nk + 1) rfl rfl rfl (by omega) (by omega) ?_
        refine o_nil rfl ?_
        first | refine o_field rfl ?_ | refine o_fieldR rfl (by omega) ?_
        refine o_store (v := .int .i64 (nk + 1)) rfl rfl rfl rfl rfl ?_
        refine g_end (G.imp (hQ_ .normal _) ?_)
        clear hQ_ Q_
        try refine g_then ?_
        refine G.norm s (stV room (nk + 1) a3) rfl ?_
        repeat (first | refine g_endt ?_ | refine g_end ?_ | refine g_then ?_ | refine g_in_normal ?_ | refine g_then_ret ?_ | refine g_in_ret ?_ | refine g_then_exit ?_ | refine g_in_exit rfl ?_ | refine g_in_exit_ne (by decide) ?_ | refine g_seq ?_ | refine g_region ?_ | refine g_block ?_ | refine g_ret ?_ | refine g_return_n ?_ | refine g_exit ?_ | refine g_skip ?_)
        refine g_hideR fun Q_ hQ_ => ?_
        refine o_load1 (v := .pointer (some ⟨s, 0, none⟩)) rfl rfl ?_
        refine o_loadN (v := y.val) rfl rfl rfl ?_
        refine o_call (put10_spec s room (nk + 1) a3 (stayD want ts ++ ad) ys3 y hst3.srt hst3.tags (by omega) (by rw [List.length_append]; omega) hyn hlt) rfl rfl ?_
        rintro _ _ rfl
        refine g_end (G.imp (hQ_ .normal _) ?_)
        clear hQ_ Q_
        try refine g_then ?_
        rw [List.append_assoc] at hst4 ⊢
        refine shutSt s room (nk + 1) (stayD want ts ++ (ad ++ [y])) a3 (insC ElemD.cmp ys3 y) hst4 ?_
        refine openGE c4 ad fun U u => ?_
        repeat (first | refine g_endt ?_ | refine g_end ?_ | refine g_then ?_ | refine g_in_normal ?_ | refine g_then_ret ?_ | refine g_in_ret ?_ | refine g_then_exit ?_ | refine g_in_exit rfl ?_ | refine g_in_exit_ne (by decide) ?_ | refine g_seq ?_ | refine g_region ?_ | refine g_block ?_ | refine g_ret ?_ | refine g_return_n ?_ | refine g_exit ?_ | refine g_skip ?_)
        refine g_hideR fun Q_ hQ_ => ?_
        refine o_load1 (v := .slice U ad.length u) rfl rfl ?_
        refine o_loadN (v := y.val) rfl rfl rfl ?_
        refine o_litP (e := 25) encE [y] (y).val.cells (fun w => by kernel_rfl) (by simp [encE]) (by simp [maxLen]) fun _ => ?_
        refine o_append (xs := ad) (ys := [y]) (by first | rfl | (simp only [List.length_map, List.length_take, List.length_append]; first | rfl | (congr 1; omega))) rfl rfl rfl rfl (fun _ => .inr trivial) (by simp [maxLen]; omega) (by simp; omega) fun U2 u2 => ?_
        refine o_store (v := .slice U2 (ad.length + 1) u2) rfl rfl rfl rfl rfl ?_
        refine g_end (G.imp (hQ_ .normal _) ?_)
        clear hQ_ Q_
        try refine g_then ?_
        refine G.norm c4 #[.slice U2 (ad.length + 1) u2] rfl ?_
        refine shutGE c4 (ad ++ [y]) U2 u2 (n := ad.length + 1) (by simp) ?_
        repeat (first | refine g_endt ?_ | refine g_end ?_ | refine g_then ?_ | refine g_in_normal ?_ | refine g_then_ret ?_ | refine g_in_ret ?_ | refine g_then_exit ?_ | refine g_in_exit rfl ?_ | refine g_in_exit_ne (by decide) ?_ | refine g_seq ?_ | refine g_region ?_ | refine g_block ?_ | refine g_ret ?_ | refine g_return_n ?_ | refine g_exit ?_ | refine g_skip ?_)
        exact g_next (tk := by
          show Take _ (GrowE c4 (tagD next (freshD (pre ++ [x]) ts)) :: StP s room (nxD next (freshD (pre ++ [x]) ts).length) (tsD (stayD want ts) (tagD next (freshD (pre ++ [x]) ts))) :: _) _
          rw [hfs, nxD_eq, tsD_eq, hts2, hy, List.length_append, show next + (((freshD pre ts).length + [x].length : Nat) : Int) = nk + 1 by rw [← hnk]; simp; omega]
          infer_instance)
    · intro D2
      rw [nxD_eq, tsD_eq]
      have hadl := tagD_len next (freshD want ts)
      obtain ⟨ad, had⟩ : ∃ ad, tagD next (freshD want ts) = ad := ⟨_, rfl⟩
      rw [had]
      refine openGE c4 ad fun U u => ?_
      repeat (first | refine g_endt ?_ | refine g_end ?_ | refine g_then ?_ | refine g_in_normal ?_ | refine g_then_ret ?_ | refine g_in_ret ?_ | refine g_then_exit ?_ | refine g_in_exit rfl ?_ | refine g_in_exit_ne (by decide) ?_ | refine g_seq ?_ | refine g_region ?_ | refine g_block ?_ | refine g_ret ?_ | refine g_return_n ?_ | refine g_exit ?_ | refine g_skip ?_)
      refine g_hide fun Q_ hQ_ => ?_
      refine g_draw [2,3] [0,1,2,3,4] [cL1 c4 U ad.length u, cL1 c5 S gs.length e] mixed rfl ?_
      refine ob_q rfl rfl ⟨_, fun X Q h => o_load1 (v := .slice U ad.length u) rfl rfl (g_end (h _ _ ⟨rfl, rfl⟩)), ?_⟩
      refine ob_q rfl rfl ⟨_, fun X Q h => o_load1 (v := .slice S gs.length e) rfl rfl (g_end (h _ _ ⟨rfl, rfl⟩)), ?_⟩
      refine ob_l rfl rfl fun Qz hz => o_store (v := .slice U ad.length u) rfl rfl rfl rfl rfl ?_
      refine G.norm c4 #[.slice U ad.length u] rfl ?_
      refine g_end (hz _ _ ⟨_, ob_fin, ?_⟩)
      clear hz Qz
      refine ob_l rfl rfl fun Qz hz => o_store (v := .slice S gs.length e) rfl rfl rfl rfl rfl ?_
      refine G.norm c5 #[.slice S gs.length e] rfl ?_
      refine g_end (hz _ _ ⟨_, ob_fin, ?_⟩)
      clear hz Qz
      refine ob_q rfl rfl ⟨_, fun X Q h => o_assign (g_end (h _ _ ⟨rfl, rfl⟩)), ?_⟩
      refine ob_nil ?_
      refine G.imp (hQ_ .normal _) ?_
      clear hQ_ Q_
      try refine g_then ?_
      repeat (first | refine g_endt ?_ | refine g_end ?_ | refine g_then ?_ | refine g_in_normal ?_ | refine g_then_ret ?_ | refine g_in_ret ?_ | refine g_then_exit ?_ | refine g_in_exit rfl ?_ | refine g_in_exit_ne (by decide) ?_ | refine g_seq ?_ | refine g_region ?_ | refine g_block ?_ | refine g_ret ?_ | refine g_return_n ?_ | refine g_exit ?_ | refine g_skip ?_)
      exact ret3 (K := [StP s room (next + ((freshD want ts).length : Int)) (stayD want ts ++ ad), oE U u ad, oE S e gs, psl encE 12 A l]) rfl (resC1 rfl rfl) (resC1 rfl rfl) (resT rfl) ⟨U, u, S, e, rfl, rfl⟩
    · intro D2 c pre hp
      exact G.pu fun h => h.elim
  · intro D c pre hp
    exact G.pu fun h => h.elim
end Go.Proofs.Ytdpbjoldgiikkaa
/- Working memory's store: made, asked, told by rising tags. -/
namespace Go.Proofs.Ytdpbjoldgiikkaa
open Go Go.Sl
attribute [local irreducible] Exit.then Exit.inBlock Code.wpIn roundPost bodyPostM runL Ret Meets MeetsD Begin

theorem fresh10_spec (room next : Int) : Ctr Try.prog 36 [.int .i64 room, .int .i64 next] [] (fun v M => ∃ s, v = .pointer (some ⟨s, 0, none⟩) ∧ M = [StP s room next []]) := by
  refine spec_of Try.func36 rfl Try.ntmps36 rfl fun w0 F => ?_
  -- hide
  -- ponder/mem.fresh
  repeat (first | refine g_endt ?_ | refine g_end ?_ | refine g_then ?_ | refine g_in_normal ?_ | refine g_then_ret ?_ | refine g_in_ret ?_ | refine g_then_exit ?_ | refine g_in_exit rfl ?_ | refine g_in_exit_ne (by decide) ?_ | refine g_seq ?_ | refine g_region ?_ | refine g_block ?_ | refine g_ret ?_ | refine g_return_n ?_ | refine g_exit ?_ | refine g_skip ?_)
  refine g_hideR fun Q_ hQ_ => ?_
  refine o_assign ?_
  refine g_end (G.imp (hQ_ .normal _) ?_)
  clear hQ_ Q_
  try refine g_then ?_
  repeat (first | refine g_endt ?_ | refine g_end ?_ | refine g_then ?_ | refine g_in_normal ?_ | refine g_then_ret ?_ | refine g_in_ret ?_ | refine g_then_exit ?_ | refine g_in_exit rfl ?_ | refine g_in_exit_ne (by decide) ?_ | refine g_seq ?_ | refine g_region ?_ | refine g_block ?_ | refine g_ret ?_ | refine g_return_n ?_ | refine g_exit ?_ | refine g_skip ?_)
  refine g_hideR fun Q_ hQ_ => ?_
  refine o_move ?_
  refine o_move ?_
  refine o_call (NewES_spec) rfl rfl ?_
  rintro _ _ ⟨pa, rfl, rfl⟩
  refine o_call (NewMTE_spec) rfl rfl ?_
  rintro _ _ ⟨pt, rfl, rfl⟩
  refine o_call (NewMSE_spec) rfl rfl ?_
  rintro _ _ ⟨pi, rfl, rfl⟩
  refine o_call (NewMSE_spec) rfl rfl ?_
  rintro _ _ ⟨pr, rfl, rfl⟩
  refine o_build ((.agg (stV room next ⟨pa, pt, pi, pr⟩))) (fun w => by kernel_rfl) ?_
  refine o_boxc (stV room next ⟨pa, pt, pi, pr⟩) rfl rfl fun s => ?_
  refine o_assign ?_
  refine g_end (G.imp (hQ_ .normal _) ?_)
  clear hQ_ Q_
  try refine g_then ?_
  refine newI pi ElemD.id ?_
  refine newI pr ElemD.attr ?_
  refine shutSt s room next [] ⟨pa, pt, pi, pr⟩ [] (StI.nil next) (tk := (inferInstance : Take _ (stC s room next ⟨pa, pt, pi, pr⟩ :: [SetAES pa [], MapATE pt [], IdxP pi ElemD.id [], IdxP pr ElemD.attr []]) _)) ?_
  repeat (first | refine g_endt ?_ | refine g_end ?_ | refine g_then ?_ | refine g_in_normal ?_ | refine g_then_ret ?_ | refine g_in_ret ?_ | refine g_then_exit ?_ | refine g_in_exit rfl ?_ | refine g_in_exit_ne (by decide) ?_ | refine g_seq ?_ | refine g_region ?_ | refine g_block ?_ | refine g_ret ?_ | refine g_return_n ?_ | refine g_exit ?_ | refine g_skip ?_)
  exact ret1 (K := [StP s room next []]) rfl (resT rfl) ⟨s, rfl, rfl⟩
theorem New10_spec (room : Int) : Ctr Try.prog 11 [.int .i64 room] [] (fun v M => (room < 1 ∨ 1024 < room) ∧ v = .tuple #[.pointer none, .int .i64 1] ∧ M = [] ∨ ¬ (room < 1 ∨ 1024 < room) ∧ ∃ s, v = .tuple #[.pointer (some ⟨s, 0, none⟩), .int .i64 0] ∧ M = [StP s room 1 []]) := by
  refine spec_of Try.func11 rfl Try.ntmps11 rfl fun w0 F => ?_
  -- hide
  -- ponder/mem.New
  repeat (first | refine g_endt ?_ | refine g_end ?_ | refine g_then ?_ | refine g_in_normal ?_ | refine g_then_ret ?_ | refine g_in_ret ?_ | refine g_then_exit ?_ | refine g_in_exit rfl ?_ | refine g_in_exit_ne (by decide) ?_ | refine g_seq ?_ | refine g_region ?_ | refine g_block ?_ | refine g_ret ?_ | refine g_return_n ?_ | refine g_exit ?_ | refine g_skip ?_)
  refine g_hideR fun Q_ hQ_ => ?_
  refine o_assign ?_
  refine o_assign ?_
  refine g_end (G.imp (hQ_ .normal _) ?_)
  clear hQ_ Q_
  try refine g_then ?_
  by_cases h1 : room < 1
  · skip
    repeat (first | refine g_endt ?_ | refine g_end ?_ | refine g_then ?_ | refine g_in_normal ?_ | refine g_then_ret ?_ | refine g_in_ret ?_ | refine g_then_exit ?_ | refine g_in_exit rfl ?_ | refine g_in_exit_ne (by decide) ?_ | refine g_seq ?_ | refine g_region ?_ | refine g_block ?_ | refine g_ret ?_ | refine g_return_n ?_ | refine g_exit ?_ | refine g_skip ?_)
    refine g_hideR fun Q_ hQ_ => ?_
    refine o_move ?_
    refine o_lss rfl rfl ?_
    rw [decide_eq_true h1]
    refine o_move ?_
    first | (refine o_want rfl rfl rfl rfl rfl ?_; refine o_move ?_) | refine o_unwanted rfl rfl rfl rfl rfl ?_ | refine o_undef rfl rfl rfl ?_
    first | (refine o_want rfl rfl rfl rfl rfl ?_; refine o_gtr rfl rfl ?_) | refine o_unwanted rfl rfl rfl rfl rfl ?_ | refine o_undef rfl rfl rfl ?_
    first | refine o_pick_t rfl rfl ?_ | refine o_pick_f rfl rfl ?_
    refine g_end (G.imp (hQ_ .normal _) ?_)
    clear hQ_ Q_
    try refine g_then ?_
    first | refine g_seq (g_cond_t rfl (by first | rfl | (simp; done) | (simp; omega) | (simp; assumption)) ?_) | refine g_cond_t rfl (by first | rfl | (simp; done) | (simp; omega) | (simp; assumption)) ?_
    repeat (first | refine g_endt ?_ | refine g_end ?_ | refine g_then ?_ | refine g_in_normal ?_ | refine g_then_ret ?_ | refine g_in_ret ?_ | refine g_then_exit ?_ | refine g_in_exit rfl ?_ | refine g_in_exit_ne (by decide) ?_ | refine g_seq ?_ | refine g_region ?_ | refine g_block ?_ | refine g_ret ?_ | refine g_return_n ?_ | refine g_exit ?_ | refine g_skip ?_)
    refine g_hideR fun Q_ hQ_ => ?_
    refine o_assign ?_
    refine o_assign ?_
    refine g_end (G.imp (hQ_ .normal _) ?_)
    clear hQ_ Q_
    try refine g_then ?_
    repeat (first | refine g_endt ?_ | refine g_end ?_ | refine g_then ?_ | refine g_in_normal ?_ | refine g_then_ret ?_ | refine g_in_ret ?_ | refine g_then_exit ?_ | refine g_in_exit rfl ?_ | refine g_in_exit_ne (by decide) ?_ | refine g_seq ?_ | refine g_region ?_ | refine g_block ?_ | refine g_ret ?_ | refine g_return_n ?_ | refine g_exit ?_ | refine g_skip ?_)
    exact ret2 (K := []) rfl (resT rfl) (resT rfl) (.inl ⟨.inl h1, rfl, rfl⟩)
  · by_cases h2 : 1024 < room
    · skip
      repeat (first | refine g_endt ?_ | refine g_end ?_ | refine g_then ?_ | refine g_in_normal ?_ | refine g_then_ret ?_ | refine g_in_ret ?_ | refine g_then_exit ?_ | refine g_in_exit rfl ?_ | refine g_in_exit_ne (by decide) ?_ | refine g_seq ?_ | refine g_region ?_ | refine g_block ?_ | refine g_ret ?_ | refine g_return_n ?_ | refine g_exit ?_ | refine g_skip ?_)
      refine g_hideR fun Q_ hQ_ => ?_
      refine o_move ?_
      refine o_lss rfl rfl ?_
      rw [decide_eq_false h1]
      refine o_move ?_
      first | (refine o_want rfl rfl rfl rfl rfl ?_; refine o_move ?_) | refine o_unwanted rfl rfl rfl rfl rfl ?_ | refine o_undef rfl rfl rfl ?_
      first | (refine o_want rfl rfl rfl rfl rfl ?_; refine o_gtr rfl rfl ?_) | refine o_unwanted rfl rfl rfl rfl rfl ?_ | refine o_undef rfl rfl rfl ?_
      rw [show decide (room > 1024) = true from decide_eq_true h2]
      first | refine o_pick_t rfl rfl ?_ | refine o_pick_f rfl rfl ?_
      refine g_end (G.imp (hQ_ .normal _) ?_)
      clear hQ_ Q_
      try refine g_then ?_
      first | refine g_seq (g_cond_t rfl (by first | rfl | (simp; done) | (simp; omega) | (simp; assumption)) ?_) | refine g_cond_t rfl (by first | rfl | (simp; done) | (simp; omega) | (simp; assumption)) ?_
      repeat (first | refine g_endt ?_ | refine g_end ?_ | refine g_then ?_ | refine g_in_normal ?_ | refine g_then_ret ?_ | refine g_in_ret ?_ | refine g_then_exit ?_ | refine g_in_exit rfl ?_ | refine g_in_exit_ne (by decide) ?_ | refine g_seq ?_ | refine g_region ?_ | refine g_block ?_ | refine g_ret ?_ | refine g_return_n ?_ | refine g_exit ?_ | refine g_skip ?_)
      refine g_hideR fun Q_ hQ_ => ?_
      refine o_assign ?_
      refine o_assign ?_
      refine g_end (G.imp (hQ_ .normal _) ?_)
      clear hQ_ Q_
      try refine g_then ?_
      repeat (first | refine g_endt ?_ | refine g_end ?_ | refine g_then ?_ | refine g_in_normal ?_ | refine g_then_ret ?_ | refine g_in_ret ?_ | refine g_then_exit ?_ | refine g_in_exit rfl ?_ | refine g_in_exit_ne (by decide) ?_ | refine g_seq ?_ | refine g_region ?_ | refine g_block ?_ | refine g_ret ?_ | refine g_return_n ?_ | refine g_exit ?_ | refine g_skip ?_)
      exact ret2 (K := []) rfl (resT rfl) (resT rfl) (.inl ⟨.inr h2, rfl, rfl⟩)
    · skip
      repeat (first | refine g_endt ?_ | refine g_end ?_ | refine g_then ?_ | refine g_in_normal ?_ | refine g_then_ret ?_ | refine g_in_ret ?_ | refine g_then_exit ?_ | refine g_in_exit rfl ?_ | refine g_in_exit_ne (by decide) ?_ | refine g_seq ?_ | refine g_region ?_ | refine g_block ?_ | refine g_ret ?_ | refine g_return_n ?_ | refine g_exit ?_ | refine g_skip ?_)
      refine g_hideR fun Q_ hQ_ => ?_
      refine o_move ?_
      refine o_lss rfl rfl ?_
      rw [decide_eq_false h1]
      refine o_move ?_
      first | (refine o_want rfl rfl rfl rfl rfl ?_; refine o_move ?_) | refine o_unwanted rfl rfl rfl rfl rfl ?_ | refine o_undef rfl rfl rfl ?_
      first | (refine o_want rfl rfl rfl rfl rfl ?_; refine o_gtr rfl rfl ?_) | refine o_unwanted rfl rfl rfl rfl rfl ?_ | refine o_undef rfl rfl rfl ?_
      rw [show decide (room > 1024) = false from decide_eq_false h2]
      first | refine o_pick_t rfl rfl ?_ | refine o_pick_f rfl rfl ?_
      refine g_end (G.imp (hQ_ .normal _) ?_)
      clear hQ_ Q_
      try refine g_then ?_
      first | refine g_seq (g_cond_f rfl (by first | rfl | (simp; done) | (simp; omega) | (simp; assumption)) ?_) | refine g_cond_f rfl (by first | rfl | (simp; done) | (simp; omega) | (simp; assumption)) ?_
      repeat (first | refine g_endt ?_ | refine g_end ?_ | refine g_then ?_ | refine g_in_normal ?_ | refine g_then_ret ?_ | refine g_in_ret ?_ | refine g_then_exit ?_ | refine g_in_exit rfl ?_ | refine g_in_exit_ne (by decide) ?_ | refine g_seq ?_ | refine g_region ?_ | refine g_block ?_ | refine g_ret ?_ | refine g_return_n ?_ | refine g_exit ?_ | refine g_skip ?_)
      refine g_hideR fun Q_ hQ_ => ?_
      refine o_move ?_
      refine o_call (fresh10_spec room 1) rfl rfl ?_
      rintro _ _ ⟨s, rfl, rfl⟩
      refine o_assign ?_
      refine o_assign ?_
      refine g_end (G.imp (hQ_ .normal _) ?_)
      clear hQ_ Q_
      try refine g_then ?_
      repeat (first | refine g_endt ?_ | refine g_end ?_ | refine g_then ?_ | refine g_in_normal ?_ | refine g_then_ret ?_ | refine g_in_ret ?_ | refine g_then_exit ?_ | refine g_in_exit rfl ?_ | refine g_in_exit_ne (by decide) ?_ | refine g_seq ?_ | refine g_region ?_ | refine g_block ?_ | refine g_ret ?_ | refine g_return_n ?_ | refine g_exit ?_ | refine g_skip ?_)
      exact ret2 (K := [StP s room 1 []]) rfl (resT rfl) (resT rfl) (.inr ⟨by omega, s, rfl, rfl⟩)
theorem NewG_spec (room : Int) (h1 : 1 ≤ room) (h2 : room ≤ 1024) : Ctr Try.prog 11 [.int .i64 room] [] (fun v M => ∃ s, v = .tuple #[.pointer (some ⟨s, 0, none⟩), .int .i64 0] ∧ M = [StP s room 1 []]) :=
  (New10_spec room).mono fun v M h => by
    rcases h with ⟨h, _⟩ | ⟨_, h⟩
    · omega
    · exact h
theorem NextSt_spec (s : Nat) (room next : Int) (ts : List ElemD) : Ctr Try.prog 20 [.pointer (some ⟨s, 0, none⟩)] [StP s room next ts] (fun v M => v = .int .i64 next ∧ M = [StP s room next ts]) := by
  refine spec_of Try.func20 rfl Try.ntmps20 rfl fun w0 F => ?_
  -- hide
  -- (*ponder/mem.Store).Next
  refine openSt s room next ts fun a ys hst => ?_
  repeat (first | refine g_endt ?_ | refine g_end ?_ | refine g_then ?_ | refine g_in_normal ?_ | refine g_then_ret ?_ | refine g_in_ret ?_ | refine g_then_exit ?_ | refine g_in_exit rfl ?_ | refine g_in_exit_ne (by decide) ?_ | refine g_seq ?_ | refine g_region ?_ | refine g_block ?_ | refine g_ret ?_ | refine g_return_n ?_ | refine g_exit ?_ | refine g_skip ?_)
  refine g_hideR fun Q_ hQ_ => ?_
  refine o_assign ?_
  refine g_end (G.imp (hQ_ .normal _) ?_)
  clear hQ_ Q_
  try refine g_then ?_
  repeat (first | refine g_endt ?_ | refine g_end ?_ | refine g_then ?_ | refine g_in_normal ?_ | refine g_then_ret ?_ | refine g_in_ret ?_ | refine g_then_exit ?_ | refine g_in_exit rfl ?_ | refine g_in_exit_ne (by decide) ?_ | refine g_seq ?_ | refine g_region ?_ | refine g_block ?_ | refine g_ret ?_ | refine g_return_n ?_ | refine g_exit ?_ | refine g_skip ?_)
  refine g_hideR fun Q_ hQ_ => ?_
  refine o_move ?_
  refine o_nil rfl ?_
  first | refine o_field rfl ?_ | refine o_fieldR rfl (by omega) ?_
  refine o_load1 (v := .int .i64 next) rfl rfl ?_
  refine o_assign ?_
  refine g_end (G.imp (hQ_ .normal _) ?_)
  clear hQ_ Q_
  try refine g_then ?_
  refine shutSt s room next ts a ys hst ?_
  repeat (first | refine g_endt ?_ | refine g_end ?_ | refine g_then ?_ | refine g_in_normal ?_ | refine g_then_ret ?_ | refine g_in_ret ?_ | refine g_then_exit ?_ | refine g_in_exit rfl ?_ | refine g_in_exit_ne (by decide) ?_ | refine g_seq ?_ | refine g_region ?_ | refine g_block ?_ | refine g_ret ?_ | refine g_return_n ?_ | refine g_exit ?_ | refine g_skip ?_)
  exact ret1 (K := [StP s room next ts]) rfl (resT rfl) ⟨rfl, rfl⟩

/-! ### By rising tags -/
theorem StP_of (s : Nat) (room next : Int) (ts : List ElemD) (a : StA) (ys : List ElemD) (hi : StI next ts ys) {L M : List SProp} [tk : Take1 L (StP s room next ts) M] : Ent (sl ((stC s room next a :: stK a ts ys) ++ M)) (sl L) := by
  refine Ent.trans ?_ (sl_perm tk.perm.symm)
  refine (sl_append_to (stC s room next a :: stK a ts ys) M).trans (Ent.star ?_ (Ent.refl _))
  exact fun B h x => ⟨(a, ys), hnil, h, (Dj.nil _).symm, .nil _, .refl _, hi, x⟩
theorem pre_map {ts : List ElemD} {pre : List PgTE} {o : ElemD} (h : (pre ++ [tgE o]) <+: ts.map tgE) : (pre.map PgTE.v ++ [o]) <+: ts := by
  obtain ⟨t, ht⟩ := h
  have := congrArg (List.map PgTE.v) ht
  rw [List.map_append, List.map_append, List.map_map, show PgTE.v ∘ tgE = id from rfl, List.map_id] at this
  exact ⟨t.map PgTE.v, this⟩
theorem pre_map' {ts : List ElemD} {pre : List PgTE} (h : pre <+: ts.map tgE) : pre.map PgTE.v <+: ts := by
  obtain ⟨t, ht⟩ := h
  have := congrArg (List.map PgTE.v) ht
  rw [List.map_append, List.map_map, show PgTE.v ∘ tgE = id from rfl, List.map_id] at this
  exact ⟨t.map PgTE.v, this⟩
abbrev pSt (b s : Nat) : SProp := pblk b (.cells #[.pointer (some ⟨s, 0, none⟩)] 29 (0, 0))
theorem All1St_iter (s b : Nat) (room next : Int) (ts : List ElemD) (hl : ts.length < 1000000000) (J0 : List SProp) {M : List SProp} [tk : Take1 J0 (StP s room next ts) M] [HasP J0 (pSt b s)] :
    Iter Try.prog 50 [.pointer (some ⟨b, 0, none⟩)] encVE ts J0 := by
  intro l J Jx hJ hy
  subst hJ
  refine spec_of Try.func50 rfl Try.ntmps50 rfl fun w0 F => ?_
  -- hide
  -- (*ponder/mem.Store).All$1
  refine G.dup (pSt b s) ?_
  repeat (first | refine g_endt ?_ | refine g_end ?_ | refine g_then ?_ | refine g_in_normal ?_ | refine g_then_ret ?_ | refine g_in_ret ?_ | refine g_then_exit ?_ | refine g_in_exit rfl ?_ | refine g_in_exit_ne (by decide) ?_ | refine g_seq ?_ | refine g_region ?_ | refine g_block ?_ | refine g_ret ?_ | refine g_return_n ?_ | refine g_exit ?_ | refine g_skip ?_)
  refine g_hideR fun Q_ hQ_ => ?_
  refine o_boxc #[.func (.yield l) #[] #[]] rfl rfl fun q => ?_
  refine g_end (G.imp (hQ_ .normal _) ?_)
  clear hQ_ Q_
  try refine g_then ?_
  refine openSt s room next ts fun a ys hst => ?_
  have hO : Ent (sl ((stC s room next a :: stK a ts ys) ++ M)) (sl (J [])) := StP_of s room next ts a ys hst
  have hf : (ts.map tgE).length < 1000000000 := by simpa using hl
  repeat (first | refine g_endt ?_ | refine g_end ?_ | refine g_then ?_ | refine g_in_normal ?_ | refine g_then_ret ?_ | refine g_in_ret ?_ | refine g_then_exit ?_ | refine g_in_exit rfl ?_ | refine g_in_exit_ne (by decide) ?_ | refine g_seq ?_ | refine g_region ?_ | refine g_block ?_ | refine g_ret ?_ | refine g_return_n ?_ | refine g_exit ?_ | refine g_skip ?_)
  refine g_hideR fun Q_ hQ_ => ?_
  refine o_load1 (v := .pointer (some ⟨s, 0, none⟩)) rfl rfl ?_
  refine o_nil rfl ?_
  first | refine o_field rfl ?_ | refine o_fieldR rfl (by omega) ?_
  refine o_load1 (v := .pointer (some ⟨a.pt, 0, none⟩)) rfl rfl ?_
  refine o_call (AllMTE_spec a.pt) rfl rfl ?_
  rintro _ _ ⟨b2, rfl, rfl⟩
  refine g_end (G.imp (hQ_ .normal _) ?_)
  clear hQ_ Q_
  try refine g_then ?_
  repeat (first | refine g_endt ?_ | refine g_end ?_ | refine g_then ?_ | refine g_in_normal ?_ | refine g_then_ret ?_ | refine g_in_ret ?_ | refine g_then_exit ?_ | refine g_in_exit rfl ?_ | refine g_in_exit_ne (by decide) ?_ | refine g_seq ?_ | refine g_region ?_ | refine g_block ?_ | refine g_ret ?_ | refine g_return_n ?_ | refine g_exit ?_ | refine g_skip ?_)
  refine g_range (ps := [10, 11]) (lb := [.pointer (some ⟨b2, 0, none⟩)]) (enc := PgTE.enc2) (xs := ts.map tgE) rfl
    (fun pre => cellsB q #[.func (.yield l) #[] #[]] 36 :: pT b2 a.pt :: Jin ((stC s room next a :: stK a ts ys) ++ M) J (pre.map PgTE.v))
    (fun c pre => pu (c = .ret) :: Jx (pre.map PgTE.v))
    (fun K => AllM1TE_iter a.pt b2 (ts.map tgE) hf (K :: cellsB q #[.func (.yield l) #[] #[]] 36 :: pT b2 a.pt :: ((stC s room next a :: stK a ts ys) ++ M)))
    (fun _ => rfl) (tk := (inferInstance : Take _ (cellsB q #[.func (.yield l) #[] #[]] 36 :: pT b2 a.pt :: ((stC s room next a :: stK a ts ys) ++ M)) _)) ?_ ?_ ?_
  · intro w0 F l' r pre x hp
    obtain ⟨o, ho, rfl⟩ := List.mem_map.1 (hp.subset (by simp : x ∈ pre ++ [x]))
    have hpm := pre_map hp
    refine G.ent (L' := cellsB q #[.func (.yield l) #[] #[]] 36 :: pT b2 a.pt :: J (pre.map PgTE.v)) ((Ent.refl _).star ((Ent.refl _).star (Jin_ent hO (pre.map PgTE.v)))) ?_
    repeat (first | refine g_endt ?_ | refine g_end ?_ | refine g_then ?_ | refine g_in_normal ?_ | refine g_then_ret ?_ | refine g_in_ret ?_ | refine g_then_exit ?_ | refine g_in_exit rfl ?_ | refine g_in_exit_ne (by decide) ?_ | refine g_seq ?_ | refine g_region ?_ | refine g_block ?_ | refine g_ret ?_ | refine g_return_n ?_ | refine g_exit ?_ | refine g_skip ?_)
    refine g_hideR fun Q_ hQ_ => ?_
    refine o_alloc fun c => ?_
    refine o_store (v := o.val) rfl rfl rfl rfl rfl ?_
    refine g_end (G.imp (hQ_ .normal _) ?_)
    clear hQ_ Q_
    try refine g_then ?_
    refine G.norm c o.val.cells rfl ?_
    repeat (first | refine g_endt ?_ | refine g_end ?_ | refine g_then ?_ | refine g_in_normal ?_ | refine g_then_ret ?_ | refine g_in_ret ?_ | refine g_then_exit ?_ | refine g_in_exit rfl ?_ | refine g_in_exit_ne (by decide) ?_ | refine g_seq ?_ | refine g_region ?_ | refine g_block ?_ | refine g_ret ?_ | refine g_return_n ?_ | refine g_exit ?_ | refine g_skip ?_)
    refine g_begin ?_
    repeat (first | refine g_endt ?_ | refine g_end ?_ | refine g_then ?_ | refine g_in_normal ?_ | refine g_then_ret ?_ | refine g_in_ret ?_ | refine g_then_exit ?_ | refine g_in_exit rfl ?_ | refine g_in_exit_ne (by decide) ?_ | refine g_seq ?_ | refine g_region ?_ | refine g_block ?_ | refine g_ret ?_ | refine g_return_n ?_ | refine g_exit ?_ | refine g_skip ?_)
    refine o_load1 (v := .func (.yield l) #[] #[]) rfl rfl ?_
    refine o_loadN (v := o.val) rfl rfl rfl ?_
    refine o_yield (hy (pre.map PgTE.v) o hpm) rfl rfl ?_ ?_
    · refine o_not rfl ?_
      refine g_endt ?_
      first | refine g_seq (g_cond_f rfl (rfl) ?_) | refine g_cond_f rfl (rfl) ?_
      repeat (first | refine g_endt ?_ | refine g_end ?_ | refine g_then ?_ | refine g_in_normal ?_ | refine g_then_ret ?_ | refine g_in_ret ?_ | refine g_then_exit ?_ | refine g_in_exit rfl ?_ | refine g_in_exit_ne (by decide) ?_ | refine g_seq ?_ | refine g_region ?_ | refine g_block ?_ | refine g_ret ?_ | refine g_return_n ?_ | refine g_exit ?_ | refine g_skip ?_)
      exact g_next (tk := by rw [List.map_append]; show Take _ (_ :: _ :: Jin _ J (pre.map PgTE.v ++ [o])) _; rw [Jin_snoc]; infer_instance)
    · refine o_not rfl ?_
      refine g_endt ?_
      first | refine g_seq (g_cond_t rfl (rfl) ?_) | refine g_cond_t rfl (rfl) ?_
      repeat (first | refine g_endt ?_ | refine g_end ?_ | refine g_then ?_ | refine g_in_normal ?_ | refine g_then_ret ?_ | refine g_in_ret ?_ | refine g_then_exit ?_ | refine g_in_exit rfl ?_ | refine g_in_exit_ne (by decide) ?_ | refine g_seq ?_ | refine g_region ?_ | refine g_block ?_ | refine g_ret ?_ | refine g_return_n ?_ | refine g_exit ?_ | refine g_skip ?_)
      refine G.pu_in (q := Code.ret = Code.ret) rfl ?_
      exact g_leave_ret (tk := by rw [show (pre ++ [tgE o]).map PgTE.v = pre.map PgTE.v ++ [o] by rw [List.map_append]; rfl]; infer_instance)
  · intro D
    rw [List.map_map, show PgTE.v ∘ tgE = id from rfl, List.map_id]
    refine G.ent (L' := cellsB q #[.func (.yield l) #[] #[]] 36 :: pT b2 a.pt :: J ts) ((Ent.refl _).star ((Ent.refl _).star (Jin_ent hO ts))) ?_
    repeat (first | refine g_endt ?_ | refine g_end ?_ | refine g_then ?_ | refine g_in_normal ?_ | refine g_then_ret ?_ | refine g_in_ret ?_ | refine g_then_exit ?_ | refine g_in_exit rfl ?_ | refine g_in_exit_ne (by decide) ?_ | refine g_seq ?_ | refine g_region ?_ | refine g_block ?_ | refine g_ret ?_ | refine g_return_n ?_ | refine g_exit ?_ | refine g_skip ?_)
    exact ret0 (K := J ts) rfl (.inl rfl)
  · intro D c pre hp
    refine G.pu fun h => ?_
    subst h
    repeat (first | refine g_endt ?_ | refine g_end ?_ | refine g_then ?_ | refine g_in_normal ?_ | refine g_then_ret ?_ | refine g_in_ret ?_ | refine g_then_exit ?_ | refine g_in_exit rfl ?_ | refine g_in_exit_ne (by decide) ?_ | refine g_seq ?_ | refine g_region ?_ | refine g_block ?_ | refine g_ret ?_ | refine g_return_n ?_ | refine g_exit ?_ | refine g_skip ?_)
    exact ret0 (K := Jx (pre.map PgTE.v)) rfl (.inr ⟨pre.map PgTE.v, pre_map' hp, rfl⟩)
theorem AllSt_spec (s : Nat) : Ctr Try.prog 24 [.pointer (some ⟨s, 0, none⟩)] []
    (fun v M => ∃ b, v = .func (.func 50) #[] #[.pointer (some ⟨b, 0, none⟩)] ∧ M = [pSt b s]) := by
  refine spec_of Try.func24 rfl Try.ntmps24 rfl fun w0 F => ?_
  -- hide
  -- (*ponder/mem.Store).All
  repeat (first | refine g_endt ?_ | refine g_end ?_ | refine g_then ?_ | refine g_in_normal ?_ | refine g_then_ret ?_ | refine g_in_ret ?_ | refine g_then_exit ?_ | refine g_in_exit rfl ?_ | refine g_in_exit_ne (by decide) ?_ | refine g_seq ?_ | refine g_region ?_ | refine g_block ?_ | refine g_ret ?_ | refine g_return_n ?_ | refine g_exit ?_ | refine g_skip ?_)
  refine o_boxc #[.pointer (some ⟨s, 0, none⟩)] rfl rfl fun b => ?_
  refine G.freeze ?_
  refine o_assign ?_
  first | refine g_endt ?_ | refine g_end ?_
  repeat (first | refine g_endt ?_ | refine g_end ?_ | refine g_then ?_ | refine g_in_normal ?_ | refine g_then_ret ?_ | refine g_in_ret ?_ | refine g_then_exit ?_ | refine g_in_exit rfl ?_ | refine g_in_exit_ne (by decide) ?_ | refine g_seq ?_ | refine g_region ?_ | refine g_block ?_ | refine g_ret ?_ | refine g_return_n ?_ | refine g_exit ?_ | refine g_skip ?_)
  refine o_func ?_
  refine o_assign ?_
  first | refine g_endt ?_ | refine g_end ?_
  repeat (first | refine g_endt ?_ | refine g_end ?_ | refine g_then ?_ | refine g_in_normal ?_ | refine g_then_ret ?_ | refine g_in_ret ?_ | refine g_then_exit ?_ | refine g_in_exit rfl ?_ | refine g_in_exit_ne (by decide) ?_ | refine g_seq ?_ | refine g_region ?_ | refine g_block ?_ | refine g_ret ?_ | refine g_return_n ?_ | refine g_exit ?_ | refine g_skip ?_)
  exact ret1 rfl (resT rfl) ⟨b, rfl, rfl⟩
end Go.Proofs.Ytdpbjoldgiikkaa
/- Working memory's store: how many there are. -/
namespace Go.Proofs.Ytdpbjoldgiikkaa
open Go Go.Sl
attribute [local irreducible] Exit.then Exit.inBlock Code.wpIn roundPost bodyPostM runL Ret Meets MeetsD Begin

theorem LenSt_spec (s : Nat) (room next : Int) (ts : List ElemD) : Ctr Try.prog 19 [.pointer (some ⟨s, 0, none⟩)] [StP s room next ts] (fun v M => v = .int .i64 (ts.length : Int) ∧ M = [StP s room next ts]) := by
  refine spec_of Try.func19 rfl Try.ntmps19 rfl fun w0 F => ?_
  -- hide
  -- (*ponder/mem.Store).Len
  refine openSt s room next ts fun a ys hst => ?_
  repeat (first | refine g_endt ?_ | refine g_end ?_ | refine g_then ?_ | refine g_in_normal ?_ | refine g_then_ret ?_ | refine g_in_ret ?_ | refine g_then_exit ?_ | refine g_in_exit rfl ?_ | refine g_in_exit_ne (by decide) ?_ | refine g_seq ?_ | refine g_region ?_ | refine g_block ?_ | refine g_ret ?_ | refine g_return_n ?_ | refine g_exit ?_ | refine g_skip ?_)
  refine g_hideR fun Q_ hQ_ => ?_
  refine o_assign ?_
  refine g_end (G.imp (hQ_ .normal _) ?_)
  clear hQ_ Q_
  try refine g_then ?_
  repeat (first | refine g_endt ?_ | refine g_end ?_ | refine g_then ?_ | refine g_in_normal ?_ | refine g_then_ret ?_ | refine g_in_ret ?_ | refine g_then_exit ?_ | refine g_in_exit rfl ?_ | refine g_in_exit_ne (by decide) ?_ | refine g_seq ?_ | refine g_region ?_ | refine g_block ?_ | refine g_ret ?_ | refine g_return_n ?_ | refine g_exit ?_ | refine g_skip ?_)
  refine g_hideR fun Q_ hQ_ => ?_
  refine o_move ?_
  refine o_nil rfl ?_
  first | refine o_field rfl ?_ | refine o_fieldR rfl (by omega) ?_
  refine o_load1 (v := .pointer (some ⟨a.pa, 0, none⟩)) rfl rfl ?_
  refine o_call (LenES_spec a.pa ys) rfl rfl ?_
  rintro _ _ ⟨rfl, rfl⟩
  refine o_assign ?_
  refine g_end (G.imp (hQ_ .normal _) ?_)
  clear hQ_ Q_
  try refine g_then ?_
  rw [hst.len]
  refine shutSt s room next ts a ys hst ?_
  repeat (first | refine g_endt ?_ | refine g_end ?_ | refine g_then ?_ | refine g_in_normal ?_ | refine g_then_ret ?_ | refine g_in_ret ?_ | refine g_then_exit ?_ | refine g_in_exit rfl ?_ | refine g_in_exit_ne (by decide) ?_ | refine g_seq ?_ | refine g_region ?_ | refine g_block ?_ | refine g_ret ?_ | refine g_return_n ?_ | refine g_exit ?_ | refine g_skip ?_)
  exact ret1 (K := [StP s room next ts]) rfl (resT rfl) ⟨rfl, rfl⟩
end Go.Proofs.Ytdpbjoldgiikkaa
/- The document's own working memory: the walk. -/
namespace Go.Proofs.Ytdpbjoldgiikkaa
open Go Go.Sl
attribute [local irreducible] Exit.then Exit.inBlock Code.wpIn roundPost bodyPostM runL Ret Meets MeetsD Begin

theorem Stays_spec (A : Option Addr) (n c : Nat) (l : List ElemD) (e : ElemD) (hl : l.length = n) (hm : n ≤ 1000000) : Ctr Try.prog 55 [.slice A n c, e.val] [psl encE 12 A l] (fun v M => v = .bool (staysD l e) ∧ M = []) := by
  refine spec_of Try.func55 rfl Try.ntmps55 rfl fun w0 F => ?_
  -- hide
  -- ponder/ponderref10.Stays
  repeat (first | refine g_endt ?_ | refine g_end ?_ | refine g_then ?_ | refine g_in_normal ?_ | refine g_then_ret ?_ | refine g_in_ret ?_ | refine g_then_exit ?_ | refine g_in_exit rfl ?_ | refine g_in_exit_ne (by decide) ?_ | refine g_seq ?_ | refine g_region ?_ | refine g_block ?_ | refine g_ret ?_ | refine g_return_n ?_ | refine g_exit ?_ | refine g_skip ?_)
  refine g_hideR fun Q_ hQ_ => ?_
  refine o_boxc e.val.cells rfl rfl fun q => ?_
  refine o_assign ?_
  refine g_end (G.imp (hQ_ .normal _) ?_)
  clear hQ_ Q_
  try refine g_then ?_
  repeat (first | refine g_endt ?_ | refine g_end ?_ | refine g_then ?_ | refine g_in_normal ?_ | refine g_then_ret ?_ | refine g_in_ret ?_ | refine g_then_exit ?_ | refine g_in_exit rfl ?_ | refine g_in_exit_ne (by decide) ?_ | refine g_seq ?_ | refine g_region ?_ | refine g_block ?_ | refine g_ret ?_ | refine g_return_n ?_ | refine g_exit ?_ | refine g_skip ?_)
  refine g_hideR fun Q_ hQ_ => ?_
  refine o_move ?_
  refine o_loadN (v := e.val) rfl rfl rfl ?_
  refine o_callp (FindE_spec A n c l e hl hm) rfl rfl ?_
  rintro _ _ ⟨rfl, rfl⟩
  refine o_move ?_
  refine o_extract rfl rfl ?_
  refine o_extract rfl rfl ?_
  refine o_alloc fun r => ?_
  refine o_store (v := ((findE l e).getD ElemD.zero).val) rfl rfl rfl rfl rfl ?_
  refine o_assign ?_
  refine g_end (G.imp (hQ_ .normal _) ?_)
  clear hQ_ Q_
  try refine g_then ?_
  refine G.norm r ((findE l e).getD ElemD.zero).val.cells rfl ?_
  unfold staysD
  obtain ⟨o, ho⟩ : ∃ o, findE l e = o := ⟨_, rfl⟩
  rw [ho, show getM ElemD.cmp l e = o from ho]
  cases o with
  | none =>
    repeat (first | refine g_endt ?_ | refine g_end ?_ | refine g_then ?_ | refine g_in_normal ?_ | refine g_then_ret ?_ | refine g_in_ret ?_ | refine g_then_exit ?_ | refine g_in_exit rfl ?_ | refine g_in_exit_ne (by decide) ?_ | refine g_seq ?_ | refine g_region ?_ | refine g_block ?_ | refine g_ret ?_ | refine g_return_n ?_ | refine g_exit ?_ | refine g_skip ?_)
    refine g_hideR fun Q_ hQ_ => ?_
    refine o_move ?_
    refine o_move ?_
    first | (refine o_want rfl rfl rfl rfl rfl ?_; (first | refine o_field rfl ?_ | refine o_fieldR rfl (by omega) ?_)) | refine o_unwanted rfl rfl rfl rfl rfl ?_ | refine o_undef rfl rfl rfl ?_
    first | (refine o_want rfl rfl rfl rfl rfl ?_; (first | refine o_load1 rfl rfl ?_ | refine o_loadE0 rfl (by assumption) rfl ?_ | refine o_loadE1 rfl (by assumption) rfl ?_)) | refine o_unwanted rfl rfl rfl rfl rfl ?_ | refine o_undef rfl rfl rfl ?_
    first | (refine o_want rfl rfl rfl rfl rfl ?_; (first | refine o_field rfl ?_ | refine o_fieldR rfl (by omega) ?_)) | refine o_unwanted rfl rfl rfl rfl rfl ?_ | refine o_undef rfl rfl rfl ?_
    first | (refine o_want rfl rfl rfl rfl rfl ?_; (first | refine o_load1 rfl rfl ?_ | refine o_loadE0 rfl (by assumption) rfl ?_ | refine o_loadE1 rfl (by assumption) rfl ?_)) | refine o_unwanted rfl rfl rfl rfl rfl ?_ | refine o_undef rfl rfl rfl ?_
    first | refine o_unwanted rfl rfl rfl rfl rfl ?_ | refine o_undef rfl rfl rfl ?_
    first | refine o_pick_t rfl rfl ?_ | refine o_pick_f rfl rfl ?_
    refine o_assign ?_
    refine g_end (G.imp (hQ_ .normal _) ?_)
    clear hQ_ Q_
    try refine g_then ?_
    repeat (first | refine g_endt ?_ | refine g_end ?_ | refine g_then ?_ | refine g_in_normal ?_ | refine g_then_ret ?_ | refine g_in_ret ?_ | refine g_then_exit ?_ | refine g_in_exit rfl ?_ | refine g_in_exit_ne (by decide) ?_ | refine g_seq ?_ | refine g_region ?_ | refine g_block ?_ | refine g_ret ?_ | refine g_return_n ?_ | refine g_exit ?_ | refine g_skip ?_)
    exact ret1 (K := []) rfl (resT rfl) ⟨rfl, rfl⟩
  | some x =>
    refine G.norm r x.val.cells rfl ?_
    repeat (first | refine g_endt ?_ | refine g_end ?_ | refine g_then ?_ | refine g_in_normal ?_ | refine g_then_ret ?_ | refine g_in_ret ?_ | refine g_then_exit ?_ | refine g_in_exit rfl ?_ | refine g_in_exit_ne (by decide) ?_ | refine g_seq ?_ | refine g_region ?_ | refine g_block ?_ | refine g_ret ?_ | refine g_return_n ?_ | refine g_exit ?_ | refine g_skip ?_)
    refine g_hideR fun Q_ hQ_ => ?_
    refine o_move ?_
    refine o_move ?_
    first | (refine o_want rfl rfl rfl rfl rfl ?_; (first | refine o_field rfl ?_ | refine o_fieldR rfl (by omega) ?_)) | refine o_unwanted rfl rfl rfl rfl rfl ?_ | refine o_undef rfl rfl rfl ?_
    refine o_want rfl rfl rfl rfl rfl (o_load1 (v := .bool x.goal) rfl rfl ?_)
    first | (refine o_want rfl rfl rfl rfl rfl ?_; (first | refine o_field rfl ?_ | refine o_fieldR rfl (by omega) ?_)) | refine o_unwanted rfl rfl rfl rfl rfl ?_ | refine o_undef rfl rfl rfl ?_
    refine o_want rfl rfl rfl rfl rfl (o_load1 (v := .bool e.goal) rfl rfl ?_)
    refine o_want rfl rfl rfl rfl rfl (o_eqty rfl rfl (eq_bool x.goal e.goal) ?_)
    first | refine o_pick_t rfl rfl ?_ | refine o_pick_f rfl rfl ?_
    refine o_assign ?_
    refine g_end (G.imp (hQ_ .normal _) ?_)
    clear hQ_ Q_
    try refine g_then ?_
    repeat (first | refine g_endt ?_ | refine g_end ?_ | refine g_then ?_ | refine g_in_normal ?_ | refine g_then_ret ?_ | refine g_in_ret ?_ | refine g_then_exit ?_ | refine g_in_exit rfl ?_ | refine g_in_exit_ne (by decide) ?_ | refine g_seq ?_ | refine g_region ?_ | refine g_block ?_ | refine g_ret ?_ | refine g_return_n ?_ | refine g_exit ?_ | refine g_skip ?_)
    exact ret1 (K := []) rfl (resT rfl) ⟨rfl, rfl⟩
abbrev rfC (r : Nat) (room next : Int) (L : Option Addr) (n c : Nat) : SProp := cellsB r #[.int .i64 room, .int .i64 next, .slice L n c] 59
def RefP (r : Nat) (room next : Int) (ts : List ElemD) : SProp := ex fun t : Option Addr × Nat => sl [rfC r room next t.1 ts.length t.2, psl encE 12 t.1 ts]
section
variable {w0 : World} {A : SProp} {L M : List SProp} {Φ : World → Prop}
theorem openRf (r : Nat) (room next : Int) (ts : List ElemD) [tk : Take1 L (RefP r room next ts) M] (h : ∀ S c, G w0 A (rfC r room next S ts.length c :: psl encE 12 S ts :: M) Φ) : G w0 A L Φ :=
  G.perm tk.perm (G.ex fun ⟨S, c⟩ => G.open_sl (h S c))
theorem shutRf (r : Nat) (room next : Int) (ts : List ElemD) (S : Option Addr) (n c : Nat) (hn : ts.length = n) [tk : Take L [rfC r room next S n c, psl encE 12 S ts] M] (h : G w0 A (RefP r room next ts :: M) Φ) : G w0 A L Φ := by
  subst hn
  exact G.perm tk.perm (G.ent ((sl_append_to _ M).trans (Ent.star (show Ent _ (RefP r room next ts) from fun _ _ x => ⟨(S, c), x⟩) (Ent.refl _))) h)
end
theorem stay_snoc (want pre : List ElemD) (x : ElemD) : stayD want (pre ++ [x]) = stayD want pre ++ (if staysD want x then [x] else []) := by
  unfold stayD
  rw [List.filter_append]
  cases h : staysD want x <;> simp [h]
set_option maxHeartbeats 8000000 in
theorem RSet_spec (r : Nat) (room next : Int) (ts : List ElemD) (A : Option Addr) (n c : Nat) (l : List ElemD) (hl : l.length = n) (hm : n ≤ 10000) (hsm : ∀ e ∈ l, e.small) (hts : ts.length ≤ 10000) (hnx : -1000000000 ≤ next ∧ next ≤ 1000000000) :
    Ctr Try.prog 30 [.pointer (some ⟨r, 0, none⟩), .slice A n c] [RefP r room next ts, psl encE 12 A l]
      (fun v M => ∃ U u W w, v = .tuple #[.slice U (setD room next ts l).added.length u, .slice W (setD room next ts l).gone.length w, .int .i64 (setD room next ts l).err] ∧
        M = [RefP r room (setD room next ts l).next (setD room next ts l).ts, psl encE 12 U (setD room next ts l).added, psl encE 12 W (setD room next ts l).gone, psl encE 12 A l]) := by
  refine spec_of Try.func30 rfl Try.ntmps30 rfl fun w0 F => ?_
  -- hide
  -- (*ponder/ponderref10.Store).Set
  repeat (first | refine g_endt ?_ | refine g_end ?_ | refine g_then ?_ | refine g_in_normal ?_ | refine g_then_ret ?_ | refine g_in_ret ?_ | refine g_then_exit ?_ | refine g_in_exit rfl ?_ | refine g_in_exit_ne (by decide) ?_ | refine g_seq ?_ | refine g_region ?_ | refine g_block ?_ | refine g_ret ?_ | refine g_return_n ?_ | refine g_exit ?_ | refine g_skip ?_)
  refine g_hideR fun Q_ hQ_ => ?_
  refine o_assign ?_
  refine o_assign ?_
  refine o_assign ?_
  refine g_end (G.imp (hQ_ .normal _) ?_)
  clear hQ_ Q_
  try refine g_then ?_
  repeat (first | refine g_endt ?_ | refine g_end ?_ | refine g_then ?_ | refine g_in_normal ?_ | refine g_then_ret ?_ | refine g_in_ret ?_ | refine g_then_exit ?_ | refine g_in_exit rfl ?_ | refine g_in_exit_ne (by decide) ?_ | refine g_seq ?_ | refine g_region ?_ | refine g_block ?_ | refine g_ret ?_ | refine g_return_n ?_ | refine g_exit ?_ | refine g_skip ?_)
  refine g_hideR fun Q_ hQ_ => ?_
  refine o_assign ?_
  refine g_end (G.imp (hQ_ .normal _) ?_)
  clear hQ_ Q_
  try refine g_then ?_
  repeat (first | refine g_endt ?_ | refine g_end ?_ | refine g_then ?_ | refine g_in_normal ?_ | refine g_then_ret ?_ | refine g_in_ret ?_ | refine g_then_exit ?_ | refine g_in_exit rfl ?_ | refine g_in_exit_ne (by decide) ?_ | refine g_seq ?_ | refine g_region ?_ | refine g_block ?_ | refine g_ret ?_ | refine g_return_n ?_ | refine g_exit ?_ | refine g_skip ?_)
  refine g_loop (σ := {i : Nat // i ≤ n ∧ ∀ (j : Nat) (e : ElemD), j < i → l[j]? = some e → validE e = true}) (S := fun i => [(0, .pointer (some ⟨r, 0, none⟩)), (1, .slice A n c), (7, .int .i64 (i.1 : Int))])
    (H := fun _ => [RefP r room next ts, psl encE 12 A l]) (μ := fun i => n - i.1) (s0 := ⟨0, Nat.zero_le _, fun j e h => absurd h (Nat.not_lt_zero j)⟩) (Sat.mem ⟨rfl, rfl, rfl, trivial⟩) ?_
  rintro ⟨i, hi, hlow⟩ ρ'
  dsimp only at hi hlow ⊢
  repeat (first | refine g_endt ?_ | refine g_end ?_ | refine g_then ?_ | refine g_in_normal ?_ | refine g_then_ret ?_ | refine g_in_ret ?_ | refine g_then_exit ?_ | refine g_in_exit rfl ?_ | refine g_in_exit_ne (by decide) ?_ | refine g_seq ?_ | refine g_region ?_ | refine g_block ?_ | refine g_ret ?_ | refine g_return_n ?_ | refine g_exit ?_ | refine g_skip ?_)
  refine g_hideR fun Q_ hQ_ => ?_
  refine o_move ?_
  refine o_move ?_
  refine o_len rfl rfl ?_
  refine o_lss rfl rfl ?_
  refine g_end (G.imp (hQ_ .normal _) ?_)
  clear hQ_ Q_
  try refine g_then ?_
  by_cases hin : i < n
  · first | refine g_seq (g_cond_t rfl (by first | rfl | (simp; done) | (simp; omega) | (simp; assumption)) ?_) | refine g_cond_t rfl (by first | rfl | (simp; done) | (simp; omega) | (simp; assumption)) ?_
    obtain ⟨e, he⟩ : ∃ e, l[i]? = some e := ⟨_, List.getElem?_eq_getElem (by omega)⟩
    repeat (first | refine g_endt ?_ | refine g_end ?_ | refine g_then ?_ | refine g_in_normal ?_ | refine g_then_ret ?_ | refine g_in_ret ?_ | refine g_then_exit ?_ | refine g_in_exit rfl ?_ | refine g_in_exit_ne (by decide) ?_ | refine g_seq ?_ | refine g_region ?_ | refine g_block ?_ | refine g_ret ?_ | refine g_return_n ?_ | refine g_exit ?_ | refine g_skip ?_)
    refine g_hideR fun Q_ hQ_ => ?_
    refine o_move ?_
    refine o_move ?_
    refine o_indexR (ys := l) (i := i) rfl rfl rfl (by omega) hl rfl ?_
    refine o_loadE (ys := l) rfl rfl he ?_
    refine o_call (ValidR_spec e (hsm e (List.mem_of_getElem? he))) rfl rfl ?_
    rintro _ _ ⟨rfl, rfl⟩
    refine o_not rfl ?_
    refine g_end (G.imp (hQ_ .normal _) ?_)
    clear hQ_ Q_
    try refine g_then ?_
    cases hv : validE e with
    | false =>
      first | refine g_seq (g_cond_t rfl (by first | rfl | (simp; done) | (simp; omega) | (simp; assumption)) ?_) | refine g_cond_t rfl (by first | rfl | (simp; done) | (simp; omega) | (simp; assumption)) ?_
      rw [setD_bad (show l.all validE = false from by rw [List.all_eq_false]; exact ⟨e, List.mem_of_getElem? he, by rw [hv]; decide⟩)]
      repeat (first | refine g_endt ?_ | refine g_end ?_ | refine g_then ?_ | refine g_in_normal ?_ | refine g_then_ret ?_ | refine g_in_ret ?_ | refine g_then_exit ?_ | refine g_in_exit rfl ?_ | refine g_in_exit_ne (by decide) ?_ | refine g_seq ?_ | refine g_region ?_ | refine g_block ?_ | refine g_ret ?_ | refine g_return_n ?_ | refine g_exit ?_ | refine g_skip ?_)
      refine g_hideR fun Q_ hQ_ => ?_
      refine o_assign ?_
      refine o_assign ?_
      refine o_assign ?_
      refine g_end (G.imp (hQ_ .normal _) ?_)
      clear hQ_ Q_
      try refine g_then ?_
      refine G.nil_slice 25 encE 12 ?_
      refine G.freeze_slice ?_
      refine G.nil_slice 25 encE 12 ?_
      refine G.freeze_slice ?_
      repeat (first | refine g_endt ?_ | refine g_end ?_ | refine g_then ?_ | refine g_in_normal ?_ | refine g_then_ret ?_ | refine g_in_ret ?_ | refine g_then_exit ?_ | refine g_in_exit rfl ?_ | refine g_in_exit_ne (by decide) ?_ | refine g_seq ?_ | refine g_region ?_ | refine g_block ?_ | refine g_ret ?_ | refine g_return_n ?_ | refine g_exit ?_ | refine g_skip ?_)
      exact ret3 (K := [RefP r room next ts, psl encE 12 none ([] : List ElemD), psl encE 12 none ([] : List ElemD), psl encE 12 A l]) rfl (resT rfl) (resT rfl) (resT rfl) ⟨none, 0, none, 0, rfl, rfl⟩
    | true =>
      first | refine g_seq (g_cond_f rfl (by first | rfl | (simp; done) | (simp; omega) | (simp; assumption)) ?_) | refine g_cond_f rfl (by first | rfl | (simp; done) | (simp; omega) | (simp; assumption)) ?_
      repeat (first | refine g_endt ?_ | refine g_end ?_ | refine g_then ?_ | refine g_in_normal ?_ | refine g_then_ret ?_ | refine g_in_ret ?_ | refine g_then_exit ?_ | refine g_in_exit rfl ?_ | refine g_in_exit_ne (by decide) ?_ | refine g_seq ?_ | refine g_region ?_ | refine g_block ?_ | refine g_ret ?_ | refine g_return_n ?_ | refine g_exit ?_ | refine g_skip ?_)
      repeat (first | refine g_endt ?_ | refine g_end ?_ | refine g_then ?_ | refine g_in_normal ?_ | refine g_then_ret ?_ | refine g_in_ret ?_ | refine g_then_exit ?_ | refine g_in_exit rfl ?_ | refine g_in_exit_ne (by decide) ?_ | refine g_seq ?_ | refine g_region ?_ | refine g_block ?_ | refine g_ret ?_ | refine g_return_n ?_ | refine g_exit ?_ | refine g_skip ?_)
      refine g_hideR fun Q_ hQ_ => ?_
      refine o_move ?_
      refine o_add (c := ((i + 1 : Nat) : Int)) rfl rfl (by omega) (by omega) (by omega) ?_
      refine o_assign ?_
      refine g_end (G.imp (hQ_ .normal _) ?_)
      clear hQ_ Q_
      try refine g_then ?_
      repeat (first | refine g_endt ?_ | refine g_end ?_ | refine g_then ?_ | refine g_in_normal ?_ | refine g_then_ret ?_ | refine g_in_ret ?_ | refine g_then_exit ?_ | refine g_in_exit rfl ?_ | refine g_in_exit_ne (by decide) ?_ | refine g_seq ?_ | refine g_region ?_ | refine g_block ?_ | refine g_ret ?_ | refine g_return_n ?_ | refine g_exit ?_ | refine g_skip ?_)
      have hn : ∀ (j : Nat) (z : ElemD), j < i + 1 → l[j]? = some z → validE z = true := fun j z hj hz => by
        by_cases ej : j = i
        · subst ej; rw [he] at hz; cases hz; exact hv
        · exact hlow j z (by omega) hz
      exact g_meets ⟨i + 1, hin, hn⟩ (by show n - (i + 1) < n - i; omega) (Sat.mem ⟨rfl, rfl, rfl, trivial⟩)
  first | refine g_seq (g_cond_f rfl (by simp; omega) ?_) | refine g_cond_f rfl (by simp; omega) ?_
  have hall : l.all validE = true := List.all_eq_true.2 fun e he => by
    obtain ⟨j, hj⟩ := List.mem_iff_getElem?.1 he
    exact hlow j e (by have := (List.getElem?_eq_some_iff.1 hj).1; omega) hj
  refine openRf r room next ts fun Lr cr => ?_
  have hwl := sortE_len' l
  repeat (first | refine g_endt ?_ | refine g_end ?_ | refine g_then ?_ | refine g_in_normal ?_ | refine g_then_ret ?_ | refine g_in_ret ?_ | refine g_then_exit ?_ | refine g_in_exit rfl ?_ | refine g_in_exit_ne (by decide) ?_ | refine g_seq ?_ | refine g_region ?_ | refine g_block ?_ | refine g_ret ?_ | refine g_return_n ?_ | refine g_exit ?_ | refine g_skip ?_)
  refine g_hideR fun Q_ hQ_ => ?_
  refine o_move ?_
  refine o_callp (SortE_spec A n c l hl hm) rfl rfl ?_
  rintro _ _ ⟨T, d, hTd, rfl, rfl⟩
  refine o_assign ?_
  refine g_end (G.imp (hQ_ .normal _) ?_)
  clear hQ_ Q_
  try refine g_then ?_
  repeat (first | refine g_endt ?_ | refine g_end ?_ | refine g_then ?_ | refine g_in_normal ?_ | refine g_then_ret ?_ | refine g_in_ret ?_ | refine g_then_exit ?_ | refine g_in_exit rfl ?_ | refine g_in_exit_ne (by decide) ?_ | refine g_seq ?_ | refine g_region ?_ | refine g_block ?_ | refine g_ret ?_ | refine g_return_n ?_ | refine g_exit ?_ | refine g_skip ?_)
  refine g_hideR fun Q_ hQ_ => ?_
  refine o_move ?_
  refine o_len rfl rfl ?_
  refine o_move ?_
  refine o_nil rfl ?_
  first | refine o_field rfl ?_ | refine o_fieldR rfl (by omega) ?_
  refine o_load1 (v := .int .i64 room) rfl rfl ?_
  refine o_gtr rfl rfl ?_
  refine g_end (G.imp (hQ_ .normal _) ?_)
  clear hQ_ Q_
  try refine g_then ?_
  by_cases hov : room < ((sortE l).length : Int)
  · first | refine g_seq (g_cond_t rfl (by simpa using hov) ?_) | refine g_cond_t rfl (by simpa using hov) ?_
    rw [setD_full hall hov]
    repeat (first | refine g_endt ?_ | refine g_end ?_ | refine g_then ?_ | refine g_in_normal ?_ | refine g_then_ret ?_ | refine g_in_ret ?_ | refine g_then_exit ?_ | refine g_in_exit rfl ?_ | refine g_in_exit_ne (by decide) ?_ | refine g_seq ?_ | refine g_region ?_ | refine g_block ?_ | refine g_ret ?_ | refine g_return_n ?_ | refine g_exit ?_ | refine g_skip ?_)
    refine g_hideR fun Q_ hQ_ => ?_
    refine o_assign ?_
    refine o_assign ?_
    refine o_assign ?_
    refine g_end (G.imp (hQ_ .normal _) ?_)
    clear hQ_ Q_
    try refine g_then ?_
    refine shutRf r room next ts Lr ts.length cr rfl ?_
    refine G.nil_slice 25 encE 12 ?_
    refine G.freeze_slice ?_
    refine G.nil_slice 25 encE 12 ?_
    refine G.freeze_slice ?_
    repeat (first | refine g_endt ?_ | refine g_end ?_ | refine g_then ?_ | refine g_in_normal ?_ | refine g_then_ret ?_ | refine g_in_ret ?_ | refine g_then_exit ?_ | refine g_in_exit rfl ?_ | refine g_in_exit_ne (by decide) ?_ | refine g_seq ?_ | refine g_region ?_ | refine g_block ?_ | refine g_ret ?_ | refine g_return_n ?_ | refine g_exit ?_ | refine g_skip ?_)
    exact ret3 (K := [RefP r room next ts, psl encE 12 none ([] : List ElemD), psl encE 12 none ([] : List ElemD), psl encE 12 A l]) rfl (resT rfl) (resT rfl) (resT rfl) ⟨none, 0, none, 0, rfl, rfl⟩
  first | refine g_seq (g_cond_f rfl (by simpa using hov) ?_) | refine g_cond_f rfl (by simpa using hov) ?_
  rw [setD_ok hall hov]
  generalize sortE l = want at hwl hTd ⊢
  repeat (first | refine g_endt ?_ | refine g_end ?_ | refine g_then ?_ | refine g_in_normal ?_ | refine g_then_ret ?_ | refine g_in_ret ?_ | refine g_then_exit ?_ | refine g_in_exit rfl ?_ | refine g_in_exit_ne (by decide) ?_ | refine g_seq ?_ | refine g_region ?_ | refine g_block ?_ | refine g_ret ?_ | refine g_return_n ?_ | refine g_exit ?_ | refine g_skip ?_)
  refine g_hideR fun Q_ hQ_ => ?_
  refine o_assign ?_
  refine o_assign ?_
  refine o_assign ?_
  refine g_end (G.imp (hQ_ .normal _) ?_)
  clear hQ_ Q_
  try refine g_then ?_
  repeat (first | refine g_endt ?_ | refine g_end ?_ | refine g_then ?_ | refine g_in_normal ?_ | refine g_then_ret ?_ | refine g_in_ret ?_ | refine g_then_exit ?_ | refine g_in_exit rfl ?_ | refine g_in_exit_ne (by decide) ?_ | refine g_seq ?_ | refine g_region ?_ | refine g_block ?_ | refine g_ret ?_ | refine g_return_n ?_ | refine g_exit ?_ | refine g_skip ?_)
  refine g_hideR fun Q_ hQ_ => ?_
  refine o_assign ?_
  refine g_end (G.imp (hQ_ .normal _) ?_)
  clear hQ_ Q_
  try refine g_then ?_
  refine G.nil_slice 25 encE 12 ?_
  refine G.nil_slice 25 encE 12 ?_
  repeat (first | refine g_endt ?_ | refine g_end ?_ | refine g_then ?_ | refine g_in_normal ?_ | refine g_then_ret ?_ | refine g_in_ret ?_ | refine g_then_exit ?_ | refine g_in_exit rfl ?_ | refine g_in_exit_ne (by decide) ?_ | refine g_seq ?_ | refine g_region ?_ | refine g_block ?_ | refine g_ret ?_ | refine g_return_n ?_ | refine g_exit ?_ | refine g_skip ?_)
  refine g_loop (σ := {t : Nat × (Option Addr × Nat) × (Option Addr × Nat) // t.1 ≤ ts.length}) (S := fun t => [(0, .pointer (some ⟨r, 0, none⟩)), (1, .slice T want.length d), (8, .slice t.1.2.1.1 (stayD want (ts.take t.1.1)).length t.1.2.1.2), (9, .slice t.1.2.2.1 (goneD want (ts.take t.1.1)).length t.1.2.2.2), (10, .slice none 0 0), (11, .int .i64 (t.1.1 : Int))])
    (H := fun t => [oE t.1.2.1.1 t.1.2.1.2 (stayD want (ts.take t.1.1)), oE t.1.2.2.1 t.1.2.2.2 (goneD want (ts.take t.1.1)), rfC r room next Lr ts.length cr, psl encE 12 Lr ts, psl encE 12 T want, psl encE 12 A l]) (μ := fun t => ts.length - t.1.1) (s0 := ⟨(0, (none, 0), (none, 0)), Nat.zero_le _⟩) (Sat.mem ⟨rfl, rfl, rfl, rfl, rfl, rfl, trivial⟩)
    (t := (inferInstance : Take _ [oE none 0 [], oE none 0 [], rfC r room next Lr ts.length cr, psl encE 12 Lr ts, psl encE 12 T want, psl encE 12 A l] _)) ?_
  rintro ⟨⟨k, ⟨U, u⟩, ⟨W, w⟩⟩, hk⟩ ρ2
  dsimp only at hk ⊢
  have htk : (ts.take k).length ≤ k := by simp; omega
  have hsl : (stayD want (ts.take k)).length ≤ (ts.take k).length := List.length_filter_le _ _
  have hgl : (goneD want (ts.take k)).length ≤ (ts.take k).length := List.length_filter_le _ _
  repeat (first | refine g_endt ?_ | refine g_end ?_ | refine g_then ?_ | refine g_in_normal ?_ | refine g_then_ret ?_ | refine g_in_ret ?_ | refine g_then_exit ?_ | refine g_in_exit rfl ?_ | refine g_in_exit_ne (by decide) ?_ | refine g_seq ?_ | refine g_region ?_ | refine g_block ?_ | refine g_ret ?_ | refine g_return_n ?_ | refine g_exit ?_ | refine g_skip ?_)
  refine g_hideR fun Q_ hQ_ => ?_
  refine o_move ?_
  refine o_move ?_
  refine o_nil rfl ?_
  first | refine o_field rfl ?_ | refine o_fieldR rfl (by omega) ?_
  refine o_load1 (v := .slice Lr ts.length cr) rfl rfl ?_
  refine o_len rfl rfl ?_
  refine o_lss rfl rfl ?_
  refine g_end (G.imp (hQ_ .normal _) ?_)
  clear hQ_ Q_
  try refine g_then ?_
  by_cases hkt : k < ts.length
  · first | refine g_seq (g_cond_t rfl (by first | rfl | (simp; done) | (simp; omega) | (simp; assumption)) ?_) | refine g_cond_t rfl (by first | rfl | (simp; done) | (simp; omega) | (simp; assumption)) ?_
    obtain ⟨o, ho⟩ : ∃ o, ts[k]? = some o := ⟨_, List.getElem?_eq_getElem hkt⟩
    have htk1 : ts.take (k + 1) = ts.take k ++ [o] := by rw [List.take_add_one, ho]; rfl
    have hs1 := stay_snoc want (ts.take k) o
    have hg1 := gone_snoc want (ts.take k) o
    rw [← htk1] at hs1 hg1
    generalize stayD want (ts.take k) = ss at hsl hs1 ⊢
    generalize goneD want (ts.take k) = gs at hgl hg1 ⊢
    repeat (first | refine g_endt ?_ | refine g_end ?_ | refine g_then ?_ | refine g_in_normal ?_ | refine g_then_ret ?_ | refine g_in_ret ?_ | refine g_then_exit ?_ | refine g_in_exit rfl ?_ | refine g_in_exit_ne (by decide) ?_ | refine g_seq ?_ | refine g_region ?_ | refine g_block ?_ | refine g_ret ?_ | refine g_return_n ?_ | refine g_exit ?_ | refine g_skip ?_)
    refine g_hideR fun Q_ hQ_ => ?_
    refine o_move ?_
    refine o_move ?_
    refine o_nil rfl ?_
    first | refine o_field rfl ?_ | refine o_fieldR rfl (by omega) ?_
    refine o_load1 (v := .slice Lr ts.length cr) rfl rfl ?_
    refine o_move ?_
    refine o_indexR (ys := ts) (i := k) rfl rfl rfl hkt rfl rfl ?_
    refine o_loadE (ys := ts) rfl rfl ho ?_
    refine o_callp (Stays_spec T want.length d want o rfl (by omega)) rfl rfl ?_
    rintro _ _ ⟨rfl, rfl⟩
    refine g_end (G.imp (hQ_ .normal _) ?_)
    clear hQ_ Q_
    try refine g_then ?_
    cases hb : staysD want o with
    | true =>
      rw [hb, if_pos rfl] at hs1
      rw [hb, if_pos rfl, List.append_nil] at hg1
      first | refine g_seq (g_cond_t rfl (by first | rfl | (simp; done) | (simp; omega) | (simp; assumption)) ?_) | refine g_cond_t rfl (by first | rfl | (simp; done) | (simp; omega) | (simp; assumption)) ?_
      repeat (first | refine g_endt ?_ | refine g_end ?_ | refine g_then ?_ | refine g_in_normal ?_ | refine g_then_ret ?_ | refine g_in_ret ?_ | refine g_then_exit ?_ | refine g_in_exit rfl ?_ | refine g_in_exit_ne (by decide) ?_ | refine g_seq ?_ | refine g_region ?_ | refine g_block ?_ | refine g_ret ?_ | refine g_return_n ?_ | refine g_exit ?_ | refine g_skip ?_)
      refine g_hideR fun Q_ hQ_ => ?_
      refine o_move ?_
      refine o_move ?_
      refine o_nil rfl ?_
      first | refine o_field rfl ?_ | refine o_fieldR rfl (by omega) ?_
      refine o_load1 (v := .slice Lr ts.length cr) rfl rfl ?_
      refine o_move ?_
      refine o_indexR (ys := ts) (i := k) rfl rfl rfl hkt rfl rfl ?_
      refine o_loadE (ys := ts) rfl rfl ho ?_
      refine o_litP (e := 25) encE [o] (o).val.cells (fun w => by kernel_rfl) (by simp [encE]) (by simp [maxLen]) fun _ => ?_
      refine o_append (xs := ss) (ys := [o]) (by first | rfl | (simp only [List.length_map, List.length_take, List.length_append]; first | rfl | (congr 1; omega))) rfl rfl rfl rfl (fun _ => .inr trivial) (by simp [maxLen]; omega) (by simp; omega) fun U2 u2 => ?_
      refine o_assign ?_
      refine g_end (G.imp (hQ_ .normal _) ?_)
      clear hQ_ Q_
      try refine g_then ?_
      rw [← hs1, ← hg1]
      repeat (first | refine g_endt ?_ | refine g_end ?_ | refine g_then ?_ | refine g_in_normal ?_ | refine g_then_ret ?_ | refine g_in_ret ?_ | refine g_then_exit ?_ | refine g_in_exit rfl ?_ | refine g_in_exit_ne (by decide) ?_ | refine g_seq ?_ | refine g_region ?_ | refine g_block ?_ | refine g_ret ?_ | refine g_return_n ?_ | refine g_exit ?_ | refine g_skip ?_)
      repeat (first | refine g_endt ?_ | refine g_end ?_ | refine g_then ?_ | refine g_in_normal ?_ | refine g_then_ret ?_ | refine g_in_ret ?_ | refine g_then_exit ?_ | refine g_in_exit rfl ?_ | refine g_in_exit_ne (by decide) ?_ | refine g_seq ?_ | refine g_region ?_ | refine g_block ?_ | refine g_ret ?_ | refine g_return_n ?_ | refine g_exit ?_ | refine g_skip ?_)
      refine g_hideR fun Q_ hQ_ => ?_
      refine o_move ?_
      refine o_add (c := ((k + 1 : Nat) : Int)) rfl rfl (by omega) (by omega) (by omega) ?_
      refine o_assign ?_
      refine g_end (G.imp (hQ_ .normal _) ?_)
      clear hQ_ Q_
      try refine g_then ?_
      repeat (first | refine g_endt ?_ | refine g_end ?_ | refine g_then ?_ | refine g_in_normal ?_ | refine g_then_ret ?_ | refine g_in_ret ?_ | refine g_then_exit ?_ | refine g_in_exit rfl ?_ | refine g_in_exit_ne (by decide) ?_ | refine g_seq ?_ | refine g_region ?_ | refine g_block ?_ | refine g_ret ?_ | refine g_return_n ?_ | refine g_exit ?_ | refine g_skip ?_)
      exact g_meets ⟨(k + 1, (U2, u2), (W, w)), hkt⟩ (by show ts.length - (k + 1) < ts.length - k; omega) (Sat.mem ⟨rfl, rfl, (show Value.slice U2 (ss.length + 1) u2 = Value.slice U2 (stayD want (ts.take (k + 1))).length u2 by rw [hs1, List.length_append]; rfl), rfl, rfl, rfl, trivial⟩)
    | false =>
      rw [hb, if_neg (by decide), List.append_nil] at hs1
      rw [hb, if_neg (by decide)] at hg1
      first | refine g_seq (g_cond_f rfl (by first | rfl | (simp; done) | (simp; omega) | (simp; assumption)) ?_) | refine g_cond_f rfl (by first | rfl | (simp; done) | (simp; omega) | (simp; assumption)) ?_
      repeat (first | refine g_endt ?_ | refine g_end ?_ | refine g_then ?_ | refine g_in_normal ?_ | refine g_then_ret ?_ | refine g_in_ret ?_ | refine g_then_exit ?_ | refine g_in_exit rfl ?_ | refine g_in_exit_ne (by decide) ?_ | refine g_seq ?_ | refine g_region ?_ | refine g_block ?_ | refine g_ret ?_ | refine g_return_n ?_ | refine g_exit ?_ | refine g_skip ?_)
      refine g_hideR fun Q_ hQ_ => ?_
      refine o_move ?_
      refine o_move ?_
      refine o_nil rfl ?_
      first | refine o_field rfl ?_ | refine o_fieldR rfl (by omega) ?_
      refine o_load1 (v := .slice Lr ts.length cr) rfl rfl ?_
      refine o_move ?_
      refine o_indexR (ys := ts) (i := k) rfl rfl rfl hkt rfl rfl ?_
      refine o_loadE (ys := ts) rfl rfl ho ?_
      refine o_litP (e := 25) encE [o] (o).val.cells (fun w => by kernel_rfl) (by simp [encE]) (by simp [maxLen]) fun _ => ?_
      refine o_append (xs := gs) (ys := [o]) (by first | rfl | (simp only [List.length_map, List.length_take, List.length_append]; first | rfl | (congr 1; omega))) rfl rfl rfl rfl (fun _ => .inr trivial) (by simp [maxLen]; omega) (by simp; omega) fun W2 w2 => ?_
      refine o_assign ?_
      refine g_end (G.imp (hQ_ .normal _) ?_)
      clear hQ_ Q_
      try refine g_then ?_
      rw [← hs1, ← hg1]
      repeat (first | refine g_endt ?_ | refine g_end ?_ | refine g_then ?_ | refine g_in_normal ?_ | refine g_then_ret ?_ | refine g_in_ret ?_ | refine g_then_exit ?_ | refine g_in_exit rfl ?_ | refine g_in_exit_ne (by decide) ?_ | refine g_seq ?_ | refine g_region ?_ | refine g_block ?_ | refine g_ret ?_ | refine g_return_n ?_ | refine g_exit ?_ | refine g_skip ?_)
      repeat (first | refine g_endt ?_ | refine g_end ?_ | refine g_then ?_ | refine g_in_normal ?_ | refine g_then_ret ?_ | refine g_in_ret ?_ | refine g_then_exit ?_ | refine g_in_exit rfl ?_ | refine g_in_exit_ne (by decide) ?_ | refine g_seq ?_ | refine g_region ?_ | refine g_block ?_ | refine g_ret ?_ | refine g_return_n ?_ | refine g_exit ?_ | refine g_skip ?_)
      refine g_hideR fun Q_ hQ_ => ?_
      refine o_move ?_
      refine o_add (c := ((k + 1 : Nat) : Int)) rfl rfl (by omega) (by omega) (by omega) ?_
      refine o_assign ?_
      refine g_end (G.imp (hQ_ .normal _) ?_)
      clear hQ_ Q_
      try refine g_then ?_
      repeat (first | refine g_endt ?_ | refine g_end ?_ | refine g_then ?_ | refine g_in_normal ?_ | refine g_then_ret ?_ | refine g_in_ret ?_ | refine g_then_exit ?_ | refine g_in_exit rfl ?_ | refine g_in_exit_ne (by decide) ?_ | refine g_seq ?_ | refine g_region ?_ | refine g_block ?_ | refine g_ret ?_ | refine g_return_n ?_ | refine g_exit ?_ | refine g_skip ?_)
      exact g_meets ⟨(k + 1, (U, u), (W2, w2)), hkt⟩ (by show ts.length - (k + 1) < ts.length - k; omega) (Sat.mem ⟨rfl, rfl, rfl, (show Value.slice W2 (gs.length + 1) w2 = Value.slice W2 (goneD want (ts.take (k + 1))).length w2 by rw [hg1, List.length_append]; rfl), rfl, rfl, trivial⟩)
  first | refine g_seq (g_cond_f rfl (by simp; omega) ?_) | refine g_cond_f rfl (by simp; omega) ?_
  rw [show ts.take k = ts from List.take_of_length_le (by omega)] at hsl hgl ⊢
  generalize stayD want ts = ss at hsl ⊢
  generalize goneD want ts = gs at hgl ⊢
  repeat (first | refine g_endt ?_ | refine g_end ?_ | refine g_then ?_ | refine g_in_normal ?_ | refine g_then_ret ?_ | refine g_in_ret ?_ | refine g_then_exit ?_ | refine g_in_exit rfl ?_ | refine g_in_exit_ne (by decide) ?_ | refine g_seq ?_ | refine g_region ?_ | refine g_block ?_ | refine g_ret ?_ | refine g_return_n ?_ | refine g_exit ?_ | refine g_skip ?_)
  refine g_hideR fun Q_ hQ_ => ?_
  refine o_assign ?_
  refine g_end (G.imp (hQ_ .normal _) ?_)
  clear hQ_ Q_
  try refine g_then ?_
  refine G.nil_slice 25 encE 12 ?_
  repeat (first | refine g_endt ?_ | refine g_end ?_ | refine g_then ?_ | refine g_in_normal ?_ | refine g_then_ret ?_ | refine g_in_ret ?_ | refine g_then_exit ?_ | refine g_in_exit rfl ?_ | refine g_in_exit_ne (by decide) ?_ | refine g_seq ?_ | refine g_region ?_ | refine g_block ?_ | refine g_ret ?_ | refine g_return_n ?_ | refine g_exit ?_ | refine g_skip ?_)
  refine g_loop (σ := {t : Nat × (Option Addr × Nat) // t.1 ≤ want.length}) (S := fun t => [(0, .pointer (some ⟨r, 0, none⟩)), (1, .slice T want.length d), (8, .slice U ss.length u), (9, .slice W gs.length w), (10, .slice t.1.2.1 (tagD next (freshD (want.take t.1.1) ts)).length t.1.2.2), (12, .int .i64 (t.1.1 : Int))])
    (H := fun t => [oE t.1.2.1 t.1.2.2 (tagD next (freshD (want.take t.1.1) ts)), oE U u ss, oE W w gs, rfC r room (nxD next (freshD (want.take t.1.1) ts).length) Lr ts.length cr, psl encE 12 Lr ts, psl encE 12 T want, psl encE 12 A l]) (μ := fun t => want.length - t.1.1) (s0 := ⟨(0, (none, 0)), Nat.zero_le _⟩) (Sat.mem ⟨rfl, rfl, rfl, rfl, rfl, rfl, trivial⟩)
    (t := (inferInstance : Take _ [oE none 0 [], oE U u ss, oE W w gs, rfC r room next Lr ts.length cr, psl encE 12 Lr ts, psl encE 12 T want, psl encE 12 A l] _)) ?_
  rintro ⟨⟨j, ⟨V, v⟩⟩, hj⟩ ρ3
  dsimp only at hj ⊢
  rw [nxD_eq]
  have htj : (want.take j).length ≤ j := by simp; omega
  have hfl : (freshD (want.take j) ts).length ≤ (want.take j).length := List.length_filter_le _ _
  have htl := tagD_len next (freshD (want.take j) ts)
  obtain ⟨nk, hnk⟩ : ∃ nk : Int, next + ((freshD (want.take j) ts).length : Int) = nk := ⟨_, rfl⟩
  rw [hnk]
  repeat (first | refine g_endt ?_ | refine g_end ?_ | refine g_then ?_ | refine g_in_normal ?_ | refine g_then_ret ?_ | refine g_in_ret ?_ | refine g_then_exit ?_ | refine g_in_exit rfl ?_ | refine g_in_exit_ne (by decide) ?_ | refine g_seq ?_ | refine g_region ?_ | refine g_block ?_ | refine g_ret ?_ | refine g_return_n ?_ | refine g_exit ?_ | refine g_skip ?_)
  refine g_hideR fun Q_ hQ_ => ?_
  refine o_move ?_
  refine o_move ?_
  refine o_len rfl rfl ?_
  refine o_lss rfl rfl ?_
  refine g_end (G.imp (hQ_ .normal _) ?_)
  clear hQ_ Q_
  try refine g_then ?_
  by_cases hjw : j < want.length
  · first | refine g_seq (g_cond_t rfl (by first | rfl | (simp; done) | (simp; omega) | (simp; assumption)) ?_) | refine g_cond_t rfl (by first | rfl | (simp; done) | (simp; omega) | (simp; assumption)) ?_
    obtain ⟨x, hx⟩ : ∃ x, want[j]? = some x := ⟨_, List.getElem?_eq_getElem hjw⟩
    have htj1 : want.take (j + 1) = want.take j ++ [x] := by rw [List.take_add_one, hx]; rfl
    have hf1 := fresh_snoc (want.take j) ts x
    rw [← htj1] at hf1
    have hts2 := tagD_snoc next (freshD (want.take j) ts) x
    rw [hnk] at hts2
    obtain ⟨ad, had⟩ : ∃ ad, tagD next (freshD (want.take j) ts) = ad := ⟨_, rfl⟩
    rw [had] at hts2 htl ⊢
    repeat (first | refine g_endt ?_ | refine g_end ?_ | refine g_then ?_ | refine g_in_normal ?_ | refine g_then_ret ?_ | refine g_in_ret ?_ | refine g_then_exit ?_ | refine g_in_exit rfl ?_ | refine g_in_exit_ne (by decide) ?_ | refine g_seq ?_ | refine g_region ?_ | refine g_block ?_ | refine g_ret ?_ | refine g_return_n ?_ | refine g_exit ?_ | refine g_skip ?_)
    refine g_hide fun Q_ hQ_ => ?_
    refine g_draw [] [0,1,2,3,4,5,6,7,8,9] [rfC r room nk Lr ts.length cr, psl encE 12 Lr ts, psl encE 12 T want] mixed rfl ?_
    refine ob_q rfl rfl ⟨_, fun X Q h => o_move (g_end (h _ _ ⟨rfl, rfl⟩)), ?_⟩
    refine ob_q rfl rfl ⟨_, fun X Q h => o_nil rfl (g_end (h _ _ ⟨rfl, rfl⟩)), ?_⟩
    first | refine ob_q rfl rfl ⟨_, fun X Q h => o_field rfl (g_end (h _ _ ⟨rfl, rfl⟩)), ?_⟩ | refine ob_q rfl rfl ⟨_, fun X Q h => o_fieldR rfl (by omega) (g_end (h _ _ ⟨rfl, rfl⟩)), ?_⟩
    refine ob_q rfl rfl ⟨_, fun X Q h => o_load1 (v := .slice Lr ts.length cr) rfl rfl (g_end (h _ _ ⟨rfl, rfl⟩)), ?_⟩
    refine ob_q rfl rfl ⟨_, fun X Q h => o_move (g_end (h _ _ ⟨rfl, rfl⟩)), ?_⟩
    refine ob_q rfl rfl ⟨_, fun X Q h => o_move (g_end (h _ _ ⟨rfl, rfl⟩)), ?_⟩
    refine ob_q rfl rfl ⟨_, fun X Q h => o_indexR (ys := want) (i := j) rfl rfl rfl hjw rfl rfl (g_end (h _ _ ⟨rfl, rfl⟩)), ?_⟩
    refine ob_q rfl rfl ⟨_, fun X Q h => o_loadE (ys := want) rfl rfl hx (g_end (h _ _ ⟨rfl, rfl⟩)), ?_⟩
    refine ob_q rfl rfl ⟨_, fun X Q h => o_callp (Stays_spec Lr ts.length cr ts x rfl (by omega)) rfl rfl <| by rintro _ _ ⟨rfl, rfl⟩; exact (g_end (h _ _ ⟨rfl, rfl⟩)), ?_⟩
    refine ob_q rfl rfl ⟨_, fun X Q h => o_not rfl (g_end (h _ _ ⟨rfl, rfl⟩)), ?_⟩
    refine ob_nil ?_
    refine G.imp (hQ_ .normal _) ?_
    clear hQ_ Q_
    try refine g_then ?_
    cases hb : staysD ts x with
    | true =>
      rw [hb, if_pos rfl, List.append_nil] at hf1
      first | refine g_seq (g_cond_f rfl (by first | rfl | (simp; done) | (simp; omega) | (simp; assumption)) ?_) | refine g_cond_f rfl (by first | rfl | (simp; done) | (simp; omega) | (simp; assumption)) ?_
      repeat (first | refine g_endt ?_ | refine g_end ?_ | refine g_then ?_ | refine g_in_normal ?_ | refine g_then_ret ?_ | refine g_in_ret ?_ | refine g_then_exit ?_ | refine g_in_exit rfl ?_ | refine g_in_exit_ne (by decide) ?_ | refine g_seq ?_ | refine g_region ?_ | refine g_block ?_ | refine g_ret ?_ | refine g_return_n ?_ | refine g_exit ?_ | refine g_skip ?_)
      repeat (first | refine g_endt ?_ | refine g_end ?_ | refine g_then ?_ | refine g_in_normal ?_ | refine g_then_ret ?_ | refine g_in_ret ?_ | refine g_then_exit ?_ | refine g_in_exit rfl ?_ | refine g_in_exit_ne (by decide) ?_ | refine g_seq ?_ | refine g_region ?_ | refine g_block ?_ | refine g_ret ?_ | refine g_return_n ?_ | refine g_exit ?_ | refine g_skip ?_)
      refine g_hideR fun Q_ hQ_ => ?_
      refine o_move ?_
      refine o_add (c := ((j + 1 : Nat) : Int)) rfl rfl (by omega) (by omega) (by omega) ?_
      refine o_assign ?_
      refine g_end (G.imp (hQ_ .normal _) ?_)
      clear hQ_ Q_
      try refine g_then ?_
      repeat (first | refine g_endt ?_ | refine g_end ?_ | refine g_then ?_ | refine g_in_normal ?_ | refine g_then_ret ?_ | refine g_in_ret ?_ | refine g_then_exit ?_ | refine g_in_exit rfl ?_ | refine g_in_exit_ne (by decide) ?_ | refine g_seq ?_ | refine g_region ?_ | refine g_block ?_ | refine g_ret ?_ | refine g_return_n ?_ | refine g_exit ?_ | refine g_skip ?_)
      exact g_meets ⟨(j + 1, (V, v)), hjw⟩ (by show want.length - (j + 1) < want.length - j; omega) (Sat.mem ⟨rfl, rfl, rfl, rfl, (show Value.slice V ad.length v = Value.slice V (tagD next (freshD (want.take (j + 1)) ts)).length v by rw [hf1, had]), rfl, trivial⟩) (t := by
        show Take _ [oE V v (tagD next (freshD (want.take (j + 1)) ts)), oE U u ss, oE W w gs, rfC r room (nxD next (freshD (want.take (j + 1)) ts).length) Lr ts.length cr, psl encE 12 Lr ts, psl encE 12 T want, psl encE 12 A l] _
        rw [hf1, nxD_eq, hnk, had]
        infer_instance)
    | false =>
      rw [hb, if_neg (by decide)] at hf1
      have hnk1 : nxD next (freshD (want.take (j + 1)) ts).length = nk + 1 := by rw [nxD_eq, hf1, List.length_append, ← hnk]; simp; omega
      obtain ⟨y, hy⟩ : ∃ y : ElemD, ({ x with tag := nk } : ElemD) = y := ⟨_, rfl⟩
      rw [hy] at hts2
      first | refine g_seq (g_cond_t rfl (by first | rfl | (simp; done) | (simp; omega) | (simp; assumption)) ?_) | refine g_cond_t rfl (by first | rfl | (simp; done) | (simp; omega) | (simp; assumption)) ?_
      repeat (first | refine g_endt ?_ | refine g_end ?_ | refine g_then ?_ | refine g_in_normal ?_ | refine g_then_ret ?_ | refine g_in_ret ?_ | refine g_then_exit ?_ | refine g_in_exit rfl ?_ | refine g_in_exit_ne (by decide) ?_ | refine g_seq ?_ | refine g_region ?_ | refine g_block ?_ | refine g_ret ?_ | refine g_return_n ?_ | refine g_exit ?_ | refine g_skip ?_)
      refine g_hideR fun Q_ hQ_ => ?_
      refine o_move ?_
      refine o_move ?_
      refine o_indexR (ys := want) (i := j) rfl rfl rfl hjw rfl rfl ?_
      refine o_loadE (ys := want) rfl rfl hx ?_
      refine o_alloc fun c13 => ?_
      refine o_store (v := x.val) rfl rfl rfl rfl rfl ?_
      refine g_end (G.imp (hQ_ .normal _) ?_)
      clear hQ_ Q_
      try refine g_then ?_
      refine G.norm c13 x.val.cells rfl ?_
      repeat (first | refine g_endt ?_ | refine g_end ?_ | refine g_then ?_ | refine g_in_normal ?_ | refine g_then_ret ?_ | refine g_in_ret ?_ | refine g_then_exit ?_ | refine g_in_exit rfl ?_ | refine g_in_exit_ne (by decide) ?_ | refine g_seq ?_ | refine g_region ?_ | refine g_block ?_ | refine g_ret ?_ | refine g_return_n ?_ | refine g_exit ?_ | refine g_skip ?_)
      refine g_hideR fun Q_ hQ_ => ?_
      refine o_move ?_
      refine o_nil rfl ?_
      first | refine o_field rfl ?_ | refine o_fieldR rfl (by omega) ?_
      refine o_load1 (v := .int .i64 nk) rfl rfl ?_
      first | refine o_field rfl ?_ | refine o_fieldR rfl (by omega) ?_
      refine o_store (v := .int .i64 nk) rfl rfl rfl rfl rfl ?_
      refine g_end (G.imp (hQ_ .normal _) ?_)
      clear hQ_ Q_
      try refine g_then ?_
      refine G.norm c13 ({ x with tag := nk } : ElemD).val.cells rfl ?_
      rw [hy]
      repeat (first | refine g_endt ?_ | refine g_end ?_ | refine g_then ?_ | refine g_in_normal ?_ | refine g_then_ret ?_ | refine g_in_ret ?_ | refine g_then_exit ?_ | refine g_in_exit rfl ?_ | refine g_in_exit_ne (by decide) ?_ | refine g_seq ?_ | refine g_region ?_ | refine g_block ?_ | refine g_ret ?_ | refine g_return_n ?_ | refine g_exit ?_ | refine g_skip ?_)
      refine g_hideR fun Q_ hQ_ => ?_
      refine o_move ?_
      refine o_nil rfl ?_
      first | refine o_field rfl ?_ | refine o_fieldR rfl (by omega) ?_
      refine o_load1 (v := .int .i64 nk) rfl rfl ?_
      refine o_add (c := nk + 1) rfl rfl rfl (by omega) (by omega) ?_
      refine o_nil rfl ?_
      first | refine o_field rfl ?_ | refine o_fieldR rfl (by omega) ?_
      refine o_store (v := .int .i64 (nk + 1)) rfl rfl rfl rfl rfl ?_
      refine g_end (G.imp (hQ_ .normal _) ?_)
      clear hQ_ Q_
      try refine g_then ?_
      refine G.norm r #[.int .i64 room, .int .i64 (nk + 1), .slice Lr ts.length cr] rfl ?_
      repeat (first | refine g_endt ?_ | refine g_end ?_ | refine g_then ?_ | refine g_in_normal ?_ | refine g_then_ret ?_ | refine g_in_ret ?_ | refine g_then_exit ?_ | refine g_in_exit rfl ?_ | refine g_in_exit_ne (by decide) ?_ | refine g_seq ?_ | refine g_region ?_ | refine g_block ?_ | refine g_ret ?_ | refine g_return_n ?_ | refine g_exit ?_ | refine g_skip ?_)
      refine g_hideR fun Q_ hQ_ => ?_
      refine o_move ?_
      refine o_loadN (v := y.val) rfl rfl rfl ?_
      refine o_litP (e := 25) encE [y] (y).val.cells (fun w => by kernel_rfl) (by simp [encE]) (by simp [maxLen]) fun _ => ?_
      refine o_append (xs := ad) (ys := [y]) (by first | rfl | (simp only [List.length_map, List.length_take, List.length_append]; first | rfl | (congr 1; omega))) rfl rfl rfl rfl (fun _ => .inr trivial) (by simp [maxLen]; omega) (by simp; omega) fun V2 v2 => ?_
      refine o_assign ?_
      refine g_end (G.imp (hQ_ .normal _) ?_)
      clear hQ_ Q_
      try refine g_then ?_
      rw [← hts2]
      repeat (first | refine g_endt ?_ | refine g_end ?_ | refine g_then ?_ | refine g_in_normal ?_ | refine g_then_ret ?_ | refine g_in_ret ?_ | refine g_then_exit ?_ | refine g_in_exit rfl ?_ | refine g_in_exit_ne (by decide) ?_ | refine g_seq ?_ | refine g_region ?_ | refine g_block ?_ | refine g_ret ?_ | refine g_return_n ?_ | refine g_exit ?_ | refine g_skip ?_)
      repeat (first | refine g_endt ?_ | refine g_end ?_ | refine g_then ?_ | refine g_in_normal ?_ | refine g_then_ret ?_ | refine g_in_ret ?_ | refine g_then_exit ?_ | refine g_in_exit rfl ?_ | refine g_in_exit_ne (by decide) ?_ | refine g_seq ?_ | refine g_region ?_ | refine g_block ?_ | refine g_ret ?_ | refine g_return_n ?_ | refine g_exit ?_ | refine g_skip ?_)
      refine g_hideR fun Q_ hQ_ => ?_
      refine o_move ?_
      refine o_add (c := ((j + 1 : Nat) : Int)) rfl rfl (by omega) (by omega) (by omega) ?_
      refine o_assign ?_
      refine g_end (G.imp (hQ_ .normal _) ?_)
      clear hQ_ Q_
      try refine g_then ?_
      repeat (first | refine g_endt ?_ | refine g_end ?_ | refine g_then ?_ | refine g_in_normal ?_ | refine g_then_ret ?_ | refine g_in_ret ?_ | refine g_then_exit ?_ | refine g_in_exit rfl ?_ | refine g_in_exit_ne (by decide) ?_ | refine g_seq ?_ | refine g_region ?_ | refine g_block ?_ | refine g_ret ?_ | refine g_return_n ?_ | refine g_exit ?_ | refine g_skip ?_)
      exact g_meets ⟨(j + 1, (V2, v2)), hjw⟩ (by show want.length - (j + 1) < want.length - j; omega) (Sat.mem ⟨rfl, rfl, rfl, rfl, (show Value.slice V2 (ad.length + 1) v2 = Value.slice V2 (tagD next (freshD (want.take (j + 1)) ts)).length v2 by rw [hf1, hts2, List.length_append]; rfl), rfl, trivial⟩) (t := by
        show Take _ [oE V2 v2 (tagD next (freshD (want.take (j + 1)) ts)), oE U u ss, oE W w gs, rfC r room (nxD next (freshD (want.take (j + 1)) ts).length) Lr ts.length cr, psl encE 12 Lr ts, psl encE 12 T want, psl encE 12 A l] _
        rw [hnk1, hf1]
        infer_instance)
  first | refine g_seq (g_cond_f rfl (by simp; omega) ?_) | refine g_cond_f rfl (by simp; omega) ?_
  rw [show want.take j = want from List.take_of_length_le (by omega)] at hnk htl hfl ⊢
  obtain ⟨ad, had⟩ : ∃ ad, tagD next (freshD want ts) = ad := ⟨_, rfl⟩
  rw [hnk]
  rw [had] at htl ⊢
  refine G.bring [oE V v ad] ?_
  refine G.frz ?_
  refine G.bring [oE W w gs] ?_
  refine G.frz ?_
  repeat (first | refine g_endt ?_ | refine g_end ?_ | refine g_then ?_ | refine g_in_normal ?_ | refine g_then_ret ?_ | refine g_in_ret ?_ | refine g_then_exit ?_ | refine g_in_exit rfl ?_ | refine g_in_exit_ne (by decide) ?_ | refine g_seq ?_ | refine g_region ?_ | refine g_block ?_ | refine g_ret ?_ | refine g_return_n ?_ | refine g_exit ?_ | refine g_skip ?_)
  refine g_hideR fun Q_ hQ_ => ?_
  refine o_move ?_
  refine o_move ?_
  refine o_move ?_
  refine o_append (xs := ss) (ys := ad) rfl rfl rfl rfl rfl (fun _ => .inr trivial) (by simp only [maxLen]; omega) (by omega) fun L2 c2 => ?_
  refine o_nil rfl ?_
  first | refine o_field rfl ?_ | refine o_fieldR rfl (by omega) ?_
  refine o_store (v := .slice L2 (ss.length + ad.length) c2) rfl rfl rfl rfl rfl ?_
  refine g_end (G.imp (hQ_ .normal _) ?_)
  clear hQ_ Q_
  try refine g_then ?_
  refine G.norm r #[.int .i64 room, .int .i64 nk, .slice L2 (ss.length + ad.length) c2] rfl ?_
  refine G.bring [oE L2 c2 (ss ++ ad)] ?_
  refine G.frz ?_
  refine shutRf r room nk (ss ++ ad) L2 (ss.length + ad.length) c2 (List.length_append) ?_
  repeat (first | refine g_endt ?_ | refine g_end ?_ | refine g_then ?_ | refine g_in_normal ?_ | refine g_then_ret ?_ | refine g_in_ret ?_ | refine g_then_exit ?_ | refine g_in_exit rfl ?_ | refine g_in_exit_ne (by decide) ?_ | refine g_seq ?_ | refine g_region ?_ | refine g_block ?_ | refine g_ret ?_ | refine g_return_n ?_ | refine g_exit ?_ | refine g_skip ?_)
  refine g_hideR fun Q_ hQ_ => ?_
  refine o_move ?_
  refine o_move ?_
  refine o_assign ?_
  refine o_assign ?_
  refine o_assign ?_
  refine g_end (G.imp (hQ_ .normal _) ?_)
  clear hQ_ Q_
  try refine g_then ?_
  repeat (first | refine g_endt ?_ | refine g_end ?_ | refine g_then ?_ | refine g_in_normal ?_ | refine g_then_ret ?_ | refine g_in_ret ?_ | refine g_then_exit ?_ | refine g_in_exit rfl ?_ | refine g_in_exit_ne (by decide) ?_ | refine g_seq ?_ | refine g_region ?_ | refine g_block ?_ | refine g_ret ?_ | refine g_return_n ?_ | refine g_exit ?_ | refine g_skip ?_)
  exact ret3 (K := [RefP r room nk (ss ++ ad), psl encE 12 V ad, psl encE 12 W gs, psl encE 12 A l]) rfl (resT rfl) (resT rfl) (resT rfl) ⟨V, v, W, w, rfl, rfl⟩
end Go.Proofs.Ytdpbjoldgiikkaa
/- Are elements few, and their texts short? -/
namespace Go.Proofs.Ytdpbjoldgiikkaa
open Go Go.Sl
attribute [local irreducible] Code.wpIn roundPost bodyPostM runL Ret Meets Begin

/-- Are the texts of an element short? -/
def shortE (e : ElemD) : Bool := decide (e.id.text.size ≤ 100) && decide (e.attr.text.size ≤ 100) && decide (e.value.text.size ≤ 100)
def lightE (l : List ElemD) (most : Nat) : Bool := decide (l.length ≤ most) && l.all shortE
theorem light_spec (A : Option Addr) (n c most : Nat) (l : List ElemD) (hl : l.length = n) (hm : n ≤ 9223372036854775807) (hk : most ≤ 1000000) : Ctr Try.prog 9 [.slice A n c, .int .i64 (most : Int)] [psl encE 12 A l] (fun v M => v = .bool (lightE l most) ∧ M = []) := by
  refine spec_of Try.func9 rfl Try.ntmps9 rfl fun w0 F => ?_
  -- ponder/ponderlaw10.light
  repeat (first | refine g_endt ?_ | refine g_end ?_ | refine g_then ?_ | refine g_in_normal ?_ | refine g_then_ret ?_ | refine g_in_ret ?_ | refine g_then_exit ?_ | refine g_in_exit rfl ?_ | refine g_in_exit_ne (by decide) ?_ | refine g_seq ?_ | refine g_region ?_ | refine g_block ?_ | refine g_ret ?_ | refine g_return_n ?_ | refine g_exit ?_ | refine g_skip ?_)
  refine o_assign ?_
  first | refine g_endt ?_ | refine g_end ?_
  repeat (first | refine g_endt ?_ | refine g_end ?_ | refine g_then ?_ | refine g_in_normal ?_ | refine g_then_ret ?_ | refine g_in_ret ?_ | refine g_then_exit ?_ | refine g_in_exit rfl ?_ | refine g_in_exit_ne (by decide) ?_ | refine g_seq ?_ | refine g_region ?_ | refine g_block ?_ | refine g_ret ?_ | refine g_return_n ?_ | refine g_exit ?_ | refine g_skip ?_)
  refine o_move ?_
  refine o_len rfl rfl ?_
  refine o_move ?_
  refine o_gtr rfl rfl ?_
  first | refine g_endt ?_ | refine g_end ?_
  by_cases h1 : most < n
  · first | refine g_seq (g_cond_t rfl (by first | rfl | (simp; done) | (simp; omega) | (simp; assumption)) ?_) | refine g_cond_t rfl (by first | rfl | (simp; done) | (simp; omega) | (simp; assumption)) ?_
    repeat (first | refine g_endt ?_ | refine g_end ?_ | refine g_then ?_ | refine g_in_normal ?_ | refine g_then_ret ?_ | refine g_in_ret ?_ | refine g_then_exit ?_ | refine g_in_exit rfl ?_ | refine g_in_exit_ne (by decide) ?_ | refine g_seq ?_ | refine g_region ?_ | refine g_block ?_ | refine g_ret ?_ | refine g_return_n ?_ | refine g_exit ?_ | refine g_skip ?_)
    refine o_assign ?_
    first | refine g_endt ?_ | refine g_end ?_
    repeat (first | refine g_endt ?_ | refine g_end ?_ | refine g_then ?_ | refine g_in_normal ?_ | refine g_then_ret ?_ | refine g_in_ret ?_ | refine g_then_exit ?_ | refine g_in_exit rfl ?_ | refine g_in_exit_ne (by decide) ?_ | refine g_seq ?_ | refine g_region ?_ | refine g_block ?_ | refine g_ret ?_ | refine g_return_n ?_ | refine g_exit ?_ | refine g_skip ?_)
    exact ret1 (K := []) rfl (resT (v := .bool false) rfl) ⟨by rw [lightE, decide_eq_false (by omega), Bool.false_and], rfl⟩
  first | refine g_seq (g_cond_f rfl (by simp; omega) ?_) | refine g_cond_f rfl (by simp; omega) ?_
  repeat (first | refine g_endt ?_ | refine g_end ?_ | refine g_then ?_ | refine g_in_normal ?_ | refine g_then_ret ?_ | refine g_in_ret ?_ | refine g_then_exit ?_ | refine g_in_exit rfl ?_ | refine g_in_exit_ne (by decide) ?_ | refine g_seq ?_ | refine g_region ?_ | refine g_block ?_ | refine g_ret ?_ | refine g_return_n ?_ | refine g_exit ?_ | refine g_skip ?_)
  refine o_assign ?_
  first | refine g_endt ?_ | refine g_end ?_
  repeat (first | refine g_endt ?_ | refine g_end ?_ | refine g_then ?_ | refine g_in_normal ?_ | refine g_then_ret ?_ | refine g_in_ret ?_ | refine g_then_exit ?_ | refine g_in_exit rfl ?_ | refine g_in_exit_ne (by decide) ?_ | refine g_seq ?_ | refine g_region ?_ | refine g_block ?_ | refine g_ret ?_ | refine g_return_n ?_ | refine g_exit ?_ | refine g_skip ?_)
  refine g_loop (σ := {i : Nat // i ≤ n ∧ ∀ (j : Nat) (y : ElemD), j < i → l[j]? = some y → shortE y = true}) (S := fun i => [(0, .slice A n c), (5, .int .i64 (i.1 : Int))]) (H := fun _ => [psl encE 12 A l]) (μ := fun i => n - i.1)
    (s0 := ⟨0, Nat.zero_le _, fun j y hj => absurd hj (Nat.not_lt_zero j)⟩) (Sat.mem ⟨rfl, rfl, trivial⟩) ?_
  rintro ⟨i, hi, hb⟩ ρ2
  dsimp only at hi hb ⊢
  repeat (first | refine g_endt ?_ | refine g_end ?_ | refine g_then ?_ | refine g_in_normal ?_ | refine g_then_ret ?_ | refine g_in_ret ?_ | refine g_then_exit ?_ | refine g_in_exit rfl ?_ | refine g_in_exit_ne (by decide) ?_ | refine g_seq ?_ | refine g_region ?_ | refine g_block ?_ | refine g_ret ?_ | refine g_return_n ?_ | refine g_exit ?_ | refine g_skip ?_)
  refine o_move ?_
  refine o_move ?_
  refine o_len rfl rfl ?_
  refine o_lss rfl rfl ?_
  first | refine g_endt ?_ | refine g_end ?_
  by_cases h : i < n
  · first | refine g_seq (g_cond_t rfl (by first | rfl | (simp; done) | (simp; omega) | (simp; assumption)) ?_) | refine g_cond_t rfl (by first | rfl | (simp; done) | (simp; omega) | (simp; assumption)) ?_
    obtain ⟨y, hy⟩ : ∃ y, l[i]? = some y := ⟨_, List.getElem?_eq_getElem (by omega)⟩
    have hil : i < l.length := by omega
    have hpos : 0 < l.length := by omega
    repeat (first | refine g_endt ?_ | refine g_end ?_ | refine g_then ?_ | refine g_in_normal ?_ | refine g_then_ret ?_ | refine g_in_ret ?_ | refine g_then_exit ?_ | refine g_in_exit rfl ?_ | refine g_in_exit_ne (by decide) ?_ | refine g_seq ?_ | refine g_block ?_ | refine g_ret ?_ | refine g_return_n ?_ | refine g_exit ?_ | refine g_skip ?_)
    refine g_cutk (σ := Unit) (ds' := []) (S := fun _ => [(0, .slice A n c), (5, .int .i64 (i : Int)), (43, .bool (!shortE y))]) (H := fun _ => [psl encE 12 A l]) (ok := fun _ => True) ?_ ?_
    · skip
      repeat (first | refine g_endt ?_ | refine g_end ?_ | refine g_then ?_ | refine g_in_normal ?_ | refine g_then_ret ?_ | refine g_in_ret ?_ | refine g_then_exit ?_ | refine g_in_exit rfl ?_ | refine g_in_exit_ne (by decide) ?_ | refine g_seq ?_ | refine g_region ?_ | refine g_block ?_ | refine g_ret ?_ | refine g_return_n ?_ | refine g_exit ?_ | refine g_skip ?_)
      refine o_move ?_
      refine o_move ?_
      refine o_indexR (ys := l) (i := i) rfl rfl rfl hil hl rfl ?_
      refine o_fieldR rfl hpos ?_
      refine o_fieldR rfl hpos ?_
      refine o_loadE1 (off := 1) (ys := l) (v := .string y.id.text) rfl hy rfl ?_
      refine o_slen rfl rfl (by kernel_rfl) ?_
      refine o_gtr rfl rfl ?_
      refine o_moveB rfl (fun h8 => ?_) (fun h8 => ?_)
      · refine o_unwanted rfl rfl rfl rfl rfl ?_
        refine o_unwanted rfl rfl rfl rfl rfl ?_
        refine o_unwanted rfl rfl rfl rfl rfl ?_
        refine o_unwanted rfl rfl rfl rfl rfl ?_
        refine o_unwanted rfl rfl rfl rfl rfl ?_
        refine o_unwanted rfl rfl rfl rfl rfl ?_
        refine o_unwanted rfl rfl rfl rfl rfl ?_
        refine o_unwanted rfl rfl rfl rfl rfl ?_
        refine o_pick_t rfl rfl ?_
        refine o_move ?_
        refine o_unwanted rfl rfl rfl rfl rfl ?_
        refine o_unwanted rfl rfl rfl rfl rfl ?_
        refine o_unwanted rfl rfl rfl rfl rfl ?_
        refine o_unwanted rfl rfl rfl rfl rfl ?_
        refine o_unwanted rfl rfl rfl rfl rfl ?_
        refine o_unwanted rfl rfl rfl rfl rfl ?_
        refine o_unwanted rfl rfl rfl rfl rfl ?_
        refine o_unwanted rfl rfl rfl rfl rfl ?_
        refine o_pick_t rfl rfl ?_
        first | refine g_endt ?_ | refine g_end ?_
        refine g_meets () trivial (Sat.mem ⟨rfl, rfl, congrArg Value.bool ?_, trivial⟩)
        ((try (simp only [decide_eq_true_eq, decide_eq_false_iff_not, ge_iff_le, gt_iff_lt] at *)); unfold shortE; generalize y.id.text.size = m1 at *; generalize y.attr.text.size = m2 at *; generalize y.value.text.size = m3 at *; rw [Bool.eq_iff_iff]; simp <;> omega)
      · refine o_want rfl rfl rfl rfl rfl <| o_move ?_
        refine o_want rfl rfl rfl rfl rfl <| o_move ?_
        refine o_want rfl rfl rfl rfl rfl <| o_indexR (ys := l) (i := i) rfl rfl rfl hil hl rfl ?_
        refine o_want rfl rfl rfl rfl rfl <| o_fieldR rfl hpos ?_
        refine o_want rfl rfl rfl rfl rfl <| o_fieldR rfl hpos ?_
        refine o_want rfl rfl rfl rfl rfl <| o_loadE1 (off := 4) (ys := l) (v := .string y.attr.text) rfl hy rfl ?_
        refine o_want rfl rfl rfl rfl rfl <| o_slen rfl rfl (by kernel_rfl) ?_
        refine o_want rfl rfl rfl rfl rfl <| o_gtr rfl rfl ?_
        refine o_pick_f rfl rfl ?_
        refine o_moveB rfl (fun h18 => ?_) (fun h18 => ?_)
        · refine o_unwanted rfl rfl rfl rfl rfl ?_
          refine o_unwanted rfl rfl rfl rfl rfl ?_
          refine o_unwanted rfl rfl rfl rfl rfl ?_
          refine o_unwanted rfl rfl rfl rfl rfl ?_
          refine o_unwanted rfl rfl rfl rfl rfl ?_
          refine o_unwanted rfl rfl rfl rfl rfl ?_
          refine o_unwanted rfl rfl rfl rfl rfl ?_
          refine o_unwanted rfl rfl rfl rfl rfl ?_
          refine o_pick_t rfl rfl ?_
          first | refine g_endt ?_ | refine g_end ?_
          refine g_meets () trivial (Sat.mem ⟨rfl, rfl, congrArg Value.bool ?_, trivial⟩)
          ((try (simp only [decide_eq_true_eq, decide_eq_false_iff_not, ge_iff_le, gt_iff_lt] at *)); unfold shortE; generalize y.id.text.size = m1 at *; generalize y.attr.text.size = m2 at *; generalize y.value.text.size = m3 at *; rw [Bool.eq_iff_iff]; simp <;> omega)
        · refine o_want rfl rfl rfl rfl rfl <| o_move ?_
          refine o_want rfl rfl rfl rfl rfl <| o_move ?_
          refine o_want rfl rfl rfl rfl rfl <| o_indexR (ys := l) (i := i) rfl rfl rfl hil hl rfl ?_
          refine o_want rfl rfl rfl rfl rfl <| o_fieldR rfl hpos ?_
          refine o_want rfl rfl rfl rfl rfl <| o_fieldR rfl hpos ?_
          refine o_want rfl rfl rfl rfl rfl <| o_loadE1 (off := 7) (ys := l) (v := .string y.value.text) rfl hy rfl ?_
          refine o_want rfl rfl rfl rfl rfl <| o_slen rfl rfl (by kernel_rfl) ?_
          refine o_want rfl rfl rfl rfl rfl <| o_gtr rfl rfl ?_
          refine o_pick_f rfl rfl ?_
          first | refine g_endt ?_ | refine g_end ?_
          refine g_meets () trivial (Sat.mem ⟨rfl, rfl, congrArg Value.bool ?_, trivial⟩)
          ((try (simp only [decide_eq_true_eq, decide_eq_false_iff_not, ge_iff_le, gt_iff_lt] at *)); unfold shortE; generalize y.id.text.size = m1 at *; generalize y.attr.text.size = m2 at *; generalize y.value.text.size = m3 at *; rw [Bool.eq_iff_iff]; simp <;> omega)
    intro _ ρ3 _
    cases hc : shortE y with
    | false =>
      first | refine g_seq (g_cond_t rfl (by first | rfl | (simp; done) | (simp; omega) | (simp; assumption)) ?_) | refine g_cond_t rfl (by first | rfl | (simp; done) | (simp; omega) | (simp; assumption)) ?_
      repeat (first | refine g_endt ?_ | refine g_end ?_ | refine g_then ?_ | refine g_in_normal ?_ | refine g_then_ret ?_ | refine g_in_ret ?_ | refine g_then_exit ?_ | refine g_in_exit rfl ?_ | refine g_in_exit_ne (by decide) ?_ | refine g_seq ?_ | refine g_region ?_ | refine g_block ?_ | refine g_ret ?_ | refine g_return_n ?_ | refine g_exit ?_ | refine g_skip ?_)
      refine o_assign ?_
      first | refine g_endt ?_ | refine g_end ?_
      repeat (first | refine g_endt ?_ | refine g_end ?_ | refine g_then ?_ | refine g_in_normal ?_ | refine g_then_ret ?_ | refine g_in_ret ?_ | refine g_then_exit ?_ | refine g_in_exit rfl ?_ | refine g_in_exit_ne (by decide) ?_ | refine g_seq ?_ | refine g_region ?_ | refine g_block ?_ | refine g_ret ?_ | refine g_return_n ?_ | refine g_exit ?_ | refine g_skip ?_)
      exact ret1 (K := []) rfl (resT (v := .bool false) rfl) ⟨by
        rw [lightE, show l.all shortE = false from List.all_eq_false.2 ⟨y, List.mem_of_getElem? hy, by rw [hc]; simp⟩, Bool.and_false], rfl⟩
    | true =>
      first | refine g_seq (g_cond_f rfl (by first | rfl | (simp; done) | (simp; omega) | (simp; assumption)) ?_) | refine g_cond_f rfl (by first | rfl | (simp; done) | (simp; omega) | (simp; assumption)) ?_
      repeat (first | refine g_endt ?_ | refine g_end ?_ | refine g_then ?_ | refine g_in_normal ?_ | refine g_then_ret ?_ | refine g_in_ret ?_ | refine g_then_exit ?_ | refine g_in_exit rfl ?_ | refine g_in_exit_ne (by decide) ?_ | refine g_seq ?_ | refine g_region ?_ | refine g_block ?_ | refine g_ret ?_ | refine g_return_n ?_ | refine g_exit ?_ | refine g_skip ?_)
      refine o_move ?_
      refine o_add (c := ((i + 1 : Nat) : Int)) rfl rfl (by omega) (by omega) (by omega) ?_
      refine o_assign ?_
      first | refine g_endt ?_ | refine g_end ?_
      repeat (first | refine g_endt ?_ | refine g_end ?_ | refine g_then ?_ | refine g_in_normal ?_ | refine g_then_ret ?_ | refine g_in_ret ?_ | refine g_then_exit ?_ | refine g_in_exit rfl ?_ | refine g_in_exit_ne (by decide) ?_ | refine g_seq ?_ | refine g_region ?_ | refine g_block ?_ | refine g_ret ?_ | refine g_return_n ?_ | refine g_exit ?_ | refine g_skip ?_)
      have hn : ∀ (j : Nat) (z : ElemD), j < i + 1 → l[j]? = some z → shortE z = true := fun j z hj hz => by
        by_cases e : j = i
        · subst e; rw [hy] at hz; cases hz; exact hc
        · exact hb j z (by omega) hz
      exact g_meets (⟨i + 1, h, hn⟩) (by first | exact trivial | (dsimp only; omega)) (Sat.mem (by repeat (first | exact trivial | refine And.intro rfl ?_)))
  · first | refine g_seq (g_cond_f rfl (by simp; omega) ?_) | refine g_cond_f rfl (by simp; omega) ?_
    repeat (first | refine g_endt ?_ | refine g_end ?_ | refine g_then ?_ | refine g_in_normal ?_ | refine g_then_ret ?_ | refine g_in_ret ?_ | refine g_then_exit ?_ | refine g_in_exit rfl ?_ | refine g_in_exit_ne (by decide) ?_ | refine g_seq ?_ | refine g_region ?_ | refine g_block ?_ | refine g_ret ?_ | refine g_return_n ?_ | refine g_exit ?_ | refine g_skip ?_)
    refine o_assign ?_
    first | refine g_endt ?_ | refine g_end ?_
    repeat (first | refine g_endt ?_ | refine g_end ?_ | refine g_then ?_ | refine g_in_normal ?_ | refine g_then_ret ?_ | refine g_in_ret ?_ | refine g_then_exit ?_ | refine g_in_exit rfl ?_ | refine g_in_exit_ne (by decide) ?_ | refine g_seq ?_ | refine g_region ?_ | refine g_block ?_ | refine g_ret ?_ | refine g_return_n ?_ | refine g_exit ?_ | refine g_skip ?_)
    exact ret1 (K := []) rfl (resT (v := .bool true) rfl) ⟨by
      rw [lightE, decide_eq_true (by omega), Bool.true_and, List.all_eq_true.2 fun y hy => ?_]
      obtain ⟨j, hj⟩ := List.mem_iff_getElem?.1 hy
      exact hb j y (by have := (List.getElem?_eq_some_iff.1 hj).1; omega) hj, rfl⟩
end Go.Proofs.Ytdpbjoldgiikkaa
/- The statements' own identifiers and words. -/
namespace Go.Proofs.Ytdpbjoldgiikkaa
open Go Go.Sl
attribute [local irreducible] Code.wpIn roundPost bodyPostM runL Ret Meets Begin

def symI (t : ByteArray) (n : Int) : SymD := ⟨1, t, n⟩
def symW (t : ByteArray) : SymD := ⟨3, t, 0⟩
theorem I_spec (t : ByteArray) (n : Int) : Ctr Try.prog 48 [.string t, .int .i64 n] [] (fun v M => v = (symI t n).val ∧ M = []) := by
  refine spec_of Try.func48 rfl Try.ntmps48 rfl fun w0 F => ?_
  -- ponder/ponderlaw09.I
  repeat (first | refine g_endt ?_ | refine g_end ?_ | refine g_then ?_ | refine g_in_normal ?_ | refine g_then_ret ?_ | refine g_in_ret ?_ | refine g_then_exit ?_ | refine g_in_exit rfl ?_ | refine g_in_exit_ne (by decide) ?_ | refine g_seq ?_ | refine g_region ?_ | refine g_block ?_ | refine g_ret ?_ | refine g_return_n ?_ | refine g_exit ?_ | refine g_skip ?_)
  refine o_alloc fun r => ?_
  first | refine g_endt ?_ | refine g_end ?_
  repeat (first | refine g_endt ?_ | refine g_end ?_ | refine g_then ?_ | refine g_in_normal ?_ | refine g_then_ret ?_ | refine g_in_ret ?_ | refine g_then_exit ?_ | refine g_in_exit rfl ?_ | refine g_in_exit_ne (by decide) ?_ | refine g_seq ?_ | refine g_region ?_ | refine g_block ?_ | refine g_ret ?_ | refine g_return_n ?_ | refine g_exit ?_ | refine g_skip ?_)
  refine o_move ?_
  refine o_move ?_
  refine o_build ((symI t n).val) (fun w => by kernel_rfl) ?_
  refine o_store (v := (symI t n).val) rfl rfl rfl rfl rfl ?_
  first | refine g_endt ?_ | refine g_end ?_
  refine G.norm r (symI t n).val.cells rfl ?_
  repeat (first | refine g_endt ?_ | refine g_end ?_ | refine g_then ?_ | refine g_in_normal ?_ | refine g_then_ret ?_ | refine g_in_ret ?_ | refine g_then_exit ?_ | refine g_in_exit rfl ?_ | refine g_in_exit_ne (by decide) ?_ | refine g_seq ?_ | refine g_region ?_ | refine g_block ?_ | refine g_ret ?_ | refine g_return_n ?_ | refine g_exit ?_ | refine g_skip ?_)
  exact ret1 (K := []) rfl (resCN (v := (symI t n).val) rfl rfl rfl) ⟨rfl, rfl⟩
theorem W_spec (t : ByteArray) : Ctr Try.prog 49 [.string t] [] (fun v M => v = (symW t).val ∧ M = []) := by
  refine spec_of Try.func49 rfl Try.ntmps49 rfl fun w0 F => ?_
  -- ponder/ponderlaw09.W
  repeat (first | refine g_endt ?_ | refine g_end ?_ | refine g_then ?_ | refine g_in_normal ?_ | refine g_then_ret ?_ | refine g_in_ret ?_ | refine g_then_exit ?_ | refine g_in_exit rfl ?_ | refine g_in_exit_ne (by decide) ?_ | refine g_seq ?_ | refine g_region ?_ | refine g_block ?_ | refine g_ret ?_ | refine g_return_n ?_ | refine g_exit ?_ | refine g_skip ?_)
  refine o_alloc fun r => ?_
  first | refine g_endt ?_ | refine g_end ?_
  repeat (first | refine g_endt ?_ | refine g_end ?_ | refine g_then ?_ | refine g_in_normal ?_ | refine g_then_ret ?_ | refine g_in_ret ?_ | refine g_then_exit ?_ | refine g_in_exit rfl ?_ | refine g_in_exit_ne (by decide) ?_ | refine g_seq ?_ | refine g_region ?_ | refine g_block ?_ | refine g_ret ?_ | refine g_return_n ?_ | refine g_exit ?_ | refine g_skip ?_)
  refine o_move ?_
  refine o_build ((symW t).val) (fun w => by kernel_rfl) ?_
  refine o_store (v := (symW t).val) rfl rfl rfl rfl rfl ?_
  first | refine g_endt ?_ | refine g_end ?_
  refine G.norm r (symW t).val.cells rfl ?_
  repeat (first | refine g_endt ?_ | refine g_end ?_ | refine g_then ?_ | refine g_in_normal ?_ | refine g_then_ret ?_ | refine g_in_ret ?_ | refine g_then_exit ?_ | refine g_in_exit rfl ?_ | refine g_in_exit_ne (by decide) ?_ | refine g_seq ?_ | refine g_region ?_ | refine g_block ?_ | refine g_ret ?_ | refine g_return_n ?_ | refine g_exit ?_ | refine g_skip ?_)
  exact ret1 (K := []) rfl (resCN (v := (symW t).val) rfl rfl rfl) ⟨rfl, rfl⟩
end Go.Proofs.Ytdpbjoldgiikkaa
/- The statements' own elements. -/
namespace Go.Proofs.Ytdpbjoldgiikkaa
open Go Go.Sl
attribute [local irreducible] Code.wpIn roundPost bodyPostM runL Ret Meets Begin

def elemE (n : Int) (a : ByteArray) (v : SymD) : ElemD := ⟨symI ⟨#[65]⟩ n, symW a, v, false, false, 0⟩
theorem E_spec (n : Int) (a : ByteArray) (s : SymD) : Ctr Try.prog 17 [.int .i64 n, .string a, s.val] [] (fun v M => v = (elemE n a s).val ∧ M = []) := by
  refine spec_of Try.func17 rfl Try.ntmps17 rfl fun w0 F => ?_
  -- ponder/ponderlaw10.E
  repeat (first | refine g_endt ?_ | refine g_end ?_ | refine g_then ?_ | refine g_in_normal ?_ | refine g_then_ret ?_ | refine g_in_ret ?_ | refine g_then_exit ?_ | refine g_in_exit rfl ?_ | refine g_in_exit_ne (by decide) ?_ | refine g_seq ?_ | refine g_region ?_ | refine g_block ?_ | refine g_ret ?_ | refine g_return_n ?_ | refine g_exit ?_ | refine g_skip ?_)
  refine o_boxc s.val.cells rfl rfl fun q => ?_
  refine o_alloc fun r => ?_
  first | refine g_endt ?_ | refine g_end ?_
  repeat (first | refine g_endt ?_ | refine g_end ?_ | refine g_then ?_ | refine g_in_normal ?_ | refine g_then_ret ?_ | refine g_in_ret ?_ | refine g_then_exit ?_ | refine g_in_exit rfl ?_ | refine g_in_exit_ne (by decide) ?_ | refine g_seq ?_ | refine g_region ?_ | refine g_block ?_ | refine g_ret ?_ | refine g_return_n ?_ | refine g_exit ?_ | refine g_skip ?_)
  refine g_draw [6] [0,1,2,3,4,5,6] [cellsB q s.val.cells 23] mixed rfl ?_
  refine ob_q rfl rfl ⟨_, fun X Q h => o_move (g_end (h _ _ ⟨rfl, rfl⟩)), ?_⟩
  refine ob_q rfl rfl ⟨_, fun X Q h => o_call (I_spec ⟨#[65]⟩ n) rfl rfl <| by rintro _ _ ⟨rfl, rfl⟩; exact (g_end (h _ _ ⟨rfl, rfl⟩)), ?_⟩
  refine ob_q rfl rfl ⟨_, fun X Q h => o_move (g_end (h _ _ ⟨rfl, rfl⟩)), ?_⟩
  refine ob_q rfl rfl ⟨_, fun X Q h => o_call (W_spec a) rfl rfl <| by rintro _ _ ⟨rfl, rfl⟩; exact (g_end (h _ _ ⟨rfl, rfl⟩)), ?_⟩
  refine ob_q rfl rfl ⟨_, fun X Q h => o_loadN (v := s.val) rfl rfl rfl (g_end (h _ _ ⟨rfl, rfl⟩)), ?_⟩
  refine ob_q rfl rfl ⟨_, fun X Q h => o_build (elemE n a s).val (fun w => by kernel_rfl) (g_end (h _ _ ⟨rfl, rfl⟩)), ?_⟩
  refine ob_l rfl rfl fun Qz hz => o_store (v := (elemE n a s).val) rfl rfl rfl rfl rfl ?_
  refine g_end (hz _ _ ⟨_, ob_fin, ?_⟩)
  clear hz Qz
  refine ob_nil ?_
  refine G.norm r (elemE n a s).val.cells rfl ?_
  repeat (first | refine g_endt ?_ | refine g_end ?_ | refine g_then ?_ | refine g_in_normal ?_ | refine g_then_ret ?_ | refine g_in_ret ?_ | refine g_then_exit ?_ | refine g_in_exit rfl ?_ | refine g_in_exit_ne (by decide) ?_ | refine g_seq ?_ | refine g_region ?_ | refine g_block ?_ | refine g_ret ?_ | refine g_return_n ?_ | refine g_exit ?_ | refine g_skip ?_)
  exact ret1 (K := []) rfl (resCN (v := (elemE n a s).val) rfl rfl rfl) ⟨rfl, rfl⟩
end Go.Proofs.Ytdpbjoldgiikkaa
/- The statements' own numbers. -/
namespace Go.Proofs.Ytdpbjoldgiikkaa
open Go Go.Sl
attribute [local irreducible] Code.wpIn roundPost bodyPostM runL Ret Meets Begin

def symN (n : Int) : SymD := ⟨2, ByteArray.empty, n⟩
theorem N_spec (n : Int) : Ctr Try.prog 18 [.int .i64 n] [] (fun v M => v = (symN n).val ∧ M = []) := by
  refine spec_of Try.func18 rfl Try.ntmps18 rfl fun w0 F => ?_
  -- ponder/ponderlaw09.N
  repeat (first | refine g_endt ?_ | refine g_end ?_ | refine g_then ?_ | refine g_in_normal ?_ | refine g_then_ret ?_ | refine g_in_ret ?_ | refine g_then_exit ?_ | refine g_in_exit rfl ?_ | refine g_in_exit_ne (by decide) ?_ | refine g_seq ?_ | refine g_region ?_ | refine g_block ?_ | refine g_ret ?_ | refine g_return_n ?_ | refine g_exit ?_ | refine g_skip ?_)
  refine o_alloc fun r => ?_
  first | refine g_endt ?_ | refine g_end ?_
  repeat (first | refine g_endt ?_ | refine g_end ?_ | refine g_then ?_ | refine g_in_normal ?_ | refine g_then_ret ?_ | refine g_in_ret ?_ | refine g_then_exit ?_ | refine g_in_exit rfl ?_ | refine g_in_exit_ne (by decide) ?_ | refine g_seq ?_ | refine g_region ?_ | refine g_block ?_ | refine g_ret ?_ | refine g_return_n ?_ | refine g_exit ?_ | refine g_skip ?_)
  refine o_move ?_
  refine o_build ((symN n).val) (fun w => by kernel_rfl) ?_
  refine o_store (v := (symN n).val) rfl rfl rfl rfl rfl ?_
  first | refine g_endt ?_ | refine g_end ?_
  refine G.norm r (symN n).val.cells rfl ?_
  repeat (first | refine g_endt ?_ | refine g_end ?_ | refine g_then ?_ | refine g_in_normal ?_ | refine g_then_ret ?_ | refine g_in_ret ?_ | refine g_then_exit ?_ | refine g_in_exit rfl ?_ | refine g_in_exit_ne (by decide) ?_ | refine g_seq ?_ | refine g_region ?_ | refine g_block ?_ | refine g_ret ?_ | refine g_return_n ?_ | refine g_exit ?_ | refine g_skip ?_)
  exact ret1 (K := []) rfl (resCN (v := (symN n).val) rfl rfl rfl) ⟨rfl, rfl⟩
end Go.Proofs.Ytdpbjoldgiikkaa
/- The document's example of chapter 10; which elements are right: the walks. -/
namespace Go.Proofs.Ytdpbjoldgiikkaa
open Go Go.Sl
attribute [local irreducible] Exit.then Exit.inBlock Code.wpIn roundPost bodyPostM runL Ret Meets MeetsD Begin

theorem SetK_spec (s : Nat) (room next : Int) (ts : List ElemD) (A : Option Addr) (n c : Nat) (l : List ElemD) (hl : l.length = n) (hm : n ≤ 10000) (hsm : ∀ e ∈ l, e.small) (hts : ts.length ≤ 10000) (hr : 0 ≤ room) (hnx : -1000000000 ≤ next ∧ next ≤ 1000000000) {r : RD} (h : setD room next ts l = r) :
    Ctr Try.prog 14 [.pointer (some ⟨s, 0, none⟩), .slice A n c] [StP s room next ts, psl encE 12 A l]
      (fun v M => ∃ U u W w, v = .tuple #[.slice U r.added.length u, .slice W r.gone.length w, .int .i64 r.err] ∧ M = [StP s room r.next r.ts, oE U u r.added, oE W w r.gone, psl encE 12 A l]) := by
  rw [← h]; exact Set10_spec s room next ts A n c l hl hm hsm hts hr hnx
theorem RSetK_spec (q : Nat) (room next : Int) (ts : List ElemD) (A : Option Addr) (n c : Nat) (l : List ElemD) (hl : l.length = n) (hm : n ≤ 10000) (hsm : ∀ e ∈ l, e.small) (hts : ts.length ≤ 10000) (hnx : -1000000000 ≤ next ∧ next ≤ 1000000000) {r : RD} (h : setD room next ts l = r) :
    Ctr Try.prog 30 [.pointer (some ⟨q, 0, none⟩), .slice A n c] [RefP q room next ts, psl encE 12 A l]
      (fun v M => ∃ U u W w, v = .tuple #[.slice U r.added.length u, .slice W r.gone.length w, .int .i64 r.err] ∧ M = [RefP q room r.next r.ts, psl encE 12 U r.added, psl encE 12 W r.gone, psl encE 12 A l]) := by
  rw [← h]; exact RSet_spec q room next ts A n c l hl hm hsm hts hnx
theorem short_small {e : ElemD} (h : shortE e = true) : e.small := by
  simp only [shortE, Bool.and_eq_true, decide_eq_true_eq] at h
  exact ⟨by omega, by omega, by omega⟩
theorem light_small {l : List ElemD} {k : Nat} (h : lightE l k = true) : l.length ≤ k ∧ ∀ e ∈ l, e.small := by
  simp only [lightE, Bool.and_eq_true, decide_eq_true_eq] at h
  exact ⟨h.1, fun e he => short_small (List.all_eq_true.1 h.2 e he)⟩
def exE (n : Int) : ElemD := elemE 1 ⟨#[120]⟩ (symN n)
def exT (n t : Int) : ElemD := { exE n with tag := t }
theorem exS1 : setD 9 1 [] [exE 1, exE 2] = ⟨[exT 1 1, exT 2 2], [], 0, 3, [exT 1 1, exT 2 2]⟩ := by kernel_rfl
theorem exS2 : setD 9 3 [exT 1 1, exT 2 2] [exE 2, exE 3] = ⟨[exT 3 3], [exT 1 1], 0, 4, [exT 2 2, exT 3 3]⟩ := by kernel_rfl
theorem exE_small (n : Int) : (exE n).small := ⟨by show (⟨#[65]⟩ : ByteArray).size ≤ _; decide, by show (⟨#[120]⟩ : ByteArray).size ≤ _; decide, by show ByteArray.empty.size ≤ _; decide⟩
set_option maxHeartbeats 2000000 in
theorem wakes10_spec : Ctr Try.prog 10 [] [] (fun v M => v = .bool true ∧ M = []) := by
  refine spec_of Try.func10 rfl Try.ntmps10 rfl fun w0 F => ?_
  -- hide
  -- ponder/ponderlaw10.wakes
  have hsm : ∀ (a b : Int), ∀ e ∈ [exE a, exE b], e.small := fun a b e he => by
    rcases List.mem_cons.1 he with rfl | he
    · exact exE_small _
    · rw [List.mem_singleton] at he; subst he; exact exE_small _
  repeat (first | refine g_endt ?_ | refine g_end ?_ | refine g_then ?_ | refine g_in_normal ?_ | refine g_then_ret ?_ | refine g_in_ret ?_ | refine g_then_exit ?_ | refine g_in_exit rfl ?_ | refine g_in_exit_ne (by decide) ?_ | refine g_seq ?_ | refine g_region ?_ | refine g_block ?_ | refine g_ret ?_ | refine g_return_n ?_ | refine g_exit ?_ | refine g_skip ?_)
  refine g_hideR fun Q_ hQ_ => ?_
  refine o_assign ?_
  refine g_end (G.imp (hQ_ .normal _) ?_)
  clear hQ_ Q_
  try refine g_then ?_
  repeat (first | refine g_endt ?_ | refine g_end ?_ | refine g_then ?_ | refine g_in_normal ?_ | refine g_then_ret ?_ | refine g_in_ret ?_ | refine g_then_exit ?_ | refine g_in_exit rfl ?_ | refine g_in_exit_ne (by decide) ?_ | refine g_seq ?_ | refine g_region ?_ | refine g_block ?_ | refine g_ret ?_ | refine g_return_n ?_ | refine g_exit ?_ | refine g_skip ?_)
  refine g_hideR fun Q_ hQ_ => ?_
  refine o_call (NewG_spec 9 (by decide) (by decide)) rfl rfl ?_
  rintro _ _ ⟨s, rfl, rfl⟩
  refine o_move ?_
  refine o_extract rfl rfl ?_
  refine o_extract rfl rfl ?_
  refine o_assign ?_
  refine o_assign ?_
  refine g_end (G.imp (hQ_ .normal _) ?_)
  clear hQ_ Q_
  try refine g_then ?_
  repeat (first | refine g_endt ?_ | refine g_end ?_ | refine g_then ?_ | refine g_in_normal ?_ | refine g_then_ret ?_ | refine g_in_ret ?_ | refine g_then_exit ?_ | refine g_in_exit rfl ?_ | refine g_in_exit_ne (by decide) ?_ | refine g_seq ?_ | refine g_region ?_ | refine g_block ?_ | refine g_ret ?_ | refine g_return_n ?_ | refine g_exit ?_ | refine g_skip ?_)
  refine g_hideR fun Q_ hQ_ => ?_
  refine o_move ?_
  refine o_neq rfl rfl ?_
  refine o_move ?_
  first | (refine o_want rfl rfl rfl rfl rfl ?_; refine o_move ?_) | refine o_unwanted rfl rfl rfl rfl rfl ?_ | refine o_undef rfl rfl rfl ?_
  first | (refine o_want rfl rfl rfl rfl rfl ?_; refine o_peql rfl ?_) | refine o_unwanted rfl rfl rfl rfl rfl ?_ | refine o_undef rfl rfl rfl ?_
  first | refine o_pick_t rfl rfl ?_ | refine o_pick_f rfl rfl ?_
  refine g_end (G.imp (hQ_ .normal _) ?_)
  clear hQ_ Q_
  try refine g_then ?_
  first | refine g_seq (g_cond_f rfl (by first | rfl | (simp; done) | (simp; omega) | (simp; assumption)) ?_) | refine g_cond_f rfl (by first | rfl | (simp; done) | (simp; omega) | (simp; assumption)) ?_
  repeat (first | refine g_endt ?_ | refine g_end ?_ | refine g_then ?_ | refine g_in_normal ?_ | refine g_then_ret ?_ | refine g_in_ret ?_ | refine g_then_exit ?_ | refine g_in_exit rfl ?_ | refine g_in_exit_ne (by decide) ?_ | refine g_seq ?_ | refine g_region ?_ | refine g_block ?_ | refine g_ret ?_ | refine g_return_n ?_ | refine g_exit ?_ | refine g_skip ?_)
  refine g_hideR fun Q_ hQ_ => ?_
  refine o_call (N_spec 1) rfl rfl ?_
  rintro _ _ ⟨rfl, rfl⟩
  refine o_call (E_spec 1 ⟨#[120]⟩ (symN 1)) rfl rfl ?_
  rintro _ _ ⟨rfl, rfl⟩
  refine o_call (N_spec 2) rfl rfl ?_
  rintro _ _ ⟨rfl, rfl⟩
  refine o_call (E_spec 1 ⟨#[120]⟩ (symN 2)) rfl rfl ?_
  rintro _ _ ⟨rfl, rfl⟩
  refine o_call (N_spec 3) rfl rfl ?_
  rintro _ _ ⟨rfl, rfl⟩
  refine o_call (E_spec 1 ⟨#[120]⟩ (symN 3)) rfl rfl ?_
  rintro _ _ ⟨rfl, rfl⟩
  refine o_alloc fun x => ?_
  refine o_alloc fun y => ?_
  refine o_alloc fun z => ?_
  refine o_store (v := (exE 1).val) rfl rfl rfl rfl rfl ?_
  refine o_store (v := (exE 2).val) rfl rfl rfl rfl rfl ?_
  refine o_store (v := (exE 3).val) rfl rfl rfl rfl rfl ?_
  refine g_end (G.imp (hQ_ .normal _) ?_)
  clear hQ_ Q_
  try refine g_then ?_
  refine G.norm x (exE 1).val.cells rfl ?_
  refine G.norm y (exE 2).val.cells rfl ?_
  refine G.norm z (exE 3).val.cells rfl ?_
  repeat (first | refine g_endt ?_ | refine g_end ?_ | refine g_then ?_ | refine g_in_normal ?_ | refine g_then_ret ?_ | refine g_in_ret ?_ | refine g_then_exit ?_ | refine g_in_exit rfl ?_ | refine g_in_exit_ne (by decide) ?_ | refine g_seq ?_ | refine g_region ?_ | refine g_block ?_ | refine g_ret ?_ | refine g_return_n ?_ | refine g_exit ?_ | refine g_skip ?_)
  refine g_hideR fun Q_ hQ_ => ?_
  refine o_move ?_
  refine o_loadN (v := (exE 1).val) rfl rfl rfl ?_
  refine o_loadN (v := (exE 2).val) rfl rfl rfl ?_
  refine o_litP (e := 25) encE [exE 1, exE 2] ((exE 1).val.cells ++ (exE 2).val.cells) (fun w => by kernel_rfl) (by simp [encE]) (by simp [maxLen]) fun b1 => ?_
  refine o_call (SetK_spec s 9 1 [] (some ⟨b1, 0, none⟩) 2 2 [exE 1, exE 2] rfl (by decide) (hsm 1 2) (by simp) (by decide) ⟨by decide, by decide⟩ exS1) rfl rfl ?_
  rintro _ _ ⟨U1, u1, W1, w1, rfl, rfl⟩
  refine g_end (G.imp (hQ_ .normal _) ?_)
  clear hQ_ Q_
  try refine g_then ?_
  repeat (first | refine g_endt ?_ | refine g_end ?_ | refine g_then ?_ | refine g_in_normal ?_ | refine g_then_ret ?_ | refine g_in_ret ?_ | refine g_then_exit ?_ | refine g_in_exit rfl ?_ | refine g_in_exit_ne (by decide) ?_ | refine g_seq ?_ | refine g_region ?_ | refine g_block ?_ | refine g_ret ?_ | refine g_return_n ?_ | refine g_exit ?_ | refine g_skip ?_)
  refine g_hideR fun Q_ hQ_ => ?_
  refine o_move ?_
  refine o_loadN (v := (exE 2).val) rfl rfl rfl ?_
  refine o_loadN (v := (exE 3).val) rfl rfl rfl ?_
  refine o_litP (e := 25) encE [exE 2, exE 3] ((exE 2).val.cells ++ (exE 3).val.cells) (fun w => by kernel_rfl) (by simp [encE]) (by simp [maxLen]) fun b2 => ?_
  refine o_call (SetK_spec s 9 3 [exT 1 1, exT 2 2] (some ⟨b2, 0, none⟩) 2 2 [exE 2, exE 3] rfl (by decide) (hsm 2 3) (by simp) (by decide) ⟨by decide, by decide⟩ exS2) rfl rfl ?_
  rintro _ _ ⟨U2, u2, W2, w2, rfl, rfl⟩
  refine o_move ?_
  refine o_extract rfl rfl ?_
  refine o_extract rfl rfl ?_
  refine o_extract rfl rfl ?_
  refine o_assign ?_
  refine o_assign ?_
  refine o_assign ?_
  refine g_end (G.imp (hQ_ .normal _) ?_)
  clear hQ_ Q_
  try refine g_then ?_
  refine G.bring [StP s 9 4 [exT 2 2, exT 3 3], oE U2 u2 [exT 3 3], oE W2 w2 [exT 1 1]] ?_
  repeat (first | refine g_endt ?_ | refine g_end ?_ | refine g_then ?_ | refine g_in_normal ?_ | refine g_then_ret ?_ | refine g_in_ret ?_ | refine g_then_exit ?_ | refine g_in_exit rfl ?_ | refine g_in_exit_ne (by decide) ?_ | refine g_seq ?_ | refine g_region ?_ | refine g_block ?_ | refine g_ret ?_ | refine g_return_n ?_ | refine g_exit ?_ | refine g_skip ?_)
  refine g_hideR fun Q_ hQ_ => ?_
  refine o_move ?_
  refine o_eql rfl rfl ?_
  refine o_move ?_
  first | (refine o_want rfl rfl rfl rfl rfl ?_; refine o_move ?_) | refine o_unwanted rfl rfl rfl rfl rfl ?_ | refine o_undef rfl rfl rfl ?_
  first | (refine o_want rfl rfl rfl rfl rfl ?_; refine o_len rfl rfl ?_) | refine o_unwanted rfl rfl rfl rfl rfl ?_ | refine o_undef rfl rfl rfl ?_
  first | (refine o_want rfl rfl rfl rfl rfl ?_; refine o_eql rfl rfl ?_) | refine o_unwanted rfl rfl rfl rfl rfl ?_ | refine o_undef rfl rfl rfl ?_
  first | refine o_pick_t rfl rfl ?_ | refine o_pick_f rfl rfl ?_
  refine o_move ?_
  first | (refine o_want rfl rfl rfl rfl rfl ?_; refine o_move ?_) | refine o_unwanted rfl rfl rfl rfl rfl ?_ | refine o_undef rfl rfl rfl ?_
  refine o_want rfl rfl rfl rfl rfl (o_indexR (ys := [exT 3 3]) (i := 0) rfl rfl rfl (by decide) rfl rfl ?_)
  refine o_want rfl rfl rfl rfl rfl (o_fieldR (ys := [exT 3 3]) rfl (by decide) ?_)
  refine o_want rfl rfl rfl rfl rfl (o_loadE1 (off := 11) (ys := [exT 3 3]) (v := .int .i64 3) rfl (i := 0) (z := exT 3 3) rfl rfl ?_)
  first | (refine o_want rfl rfl rfl rfl rfl ?_; refine o_eql rfl rfl ?_) | refine o_unwanted rfl rfl rfl rfl rfl ?_ | refine o_undef rfl rfl rfl ?_
  first | refine o_pick_t rfl rfl ?_ | refine o_pick_f rfl rfl ?_
  refine o_move ?_
  first | (refine o_want rfl rfl rfl rfl rfl ?_; refine o_move ?_) | refine o_unwanted rfl rfl rfl rfl rfl ?_ | refine o_undef rfl rfl rfl ?_
  first | (refine o_want rfl rfl rfl rfl rfl ?_; refine o_len rfl rfl ?_) | refine o_unwanted rfl rfl rfl rfl rfl ?_ | refine o_undef rfl rfl rfl ?_
  first | (refine o_want rfl rfl rfl rfl rfl ?_; refine o_eql rfl rfl ?_) | refine o_unwanted rfl rfl rfl rfl rfl ?_ | refine o_undef rfl rfl rfl ?_
  first | refine o_pick_t rfl rfl ?_ | refine o_pick_f rfl rfl ?_
  refine o_move ?_
  first | (refine o_want rfl rfl rfl rfl rfl ?_; refine o_move ?_) | refine o_unwanted rfl rfl rfl rfl rfl ?_ | refine o_undef rfl rfl rfl ?_
  refine o_want rfl rfl rfl rfl rfl (o_indexR (ys := [exT 1 1]) (i := 0) rfl rfl rfl (by decide) rfl rfl ?_)
  refine o_want rfl rfl rfl rfl rfl (o_fieldR (ys := [exT 1 1]) rfl (by decide) ?_)
  refine o_want rfl rfl rfl rfl rfl (o_loadE1 (off := 11) (ys := [exT 1 1]) (v := .int .i64 1) rfl (i := 0) (z := exT 1 1) rfl rfl ?_)
  first | (refine o_want rfl rfl rfl rfl rfl ?_; refine o_eql rfl rfl ?_) | refine o_unwanted rfl rfl rfl rfl rfl ?_ | refine o_undef rfl rfl rfl ?_
  first | refine o_pick_t rfl rfl ?_ | refine o_pick_f rfl rfl ?_
  refine o_move ?_
  first | (refine o_want rfl rfl rfl rfl rfl ?_; refine o_move ?_) | refine o_unwanted rfl rfl rfl rfl rfl ?_ | refine o_undef rfl rfl rfl ?_
  refine o_want rfl rfl rfl rfl rfl (o_call (NextSt_spec s 9 4 [exT 2 2, exT 3 3]) rfl rfl ?_)
  rintro _ _ ⟨rfl, rfl⟩
  first | (refine o_want rfl rfl rfl rfl rfl ?_; refine o_eql rfl rfl ?_) | refine o_unwanted rfl rfl rfl rfl rfl ?_ | refine o_undef rfl rfl rfl ?_
  first | refine o_pick_t rfl rfl ?_ | refine o_pick_f rfl rfl ?_
  refine o_assign ?_
  refine g_end (G.imp (hQ_ .normal _) ?_)
  clear hQ_ Q_
  try refine g_then ?_
  repeat (first | refine g_endt ?_ | refine g_end ?_ | refine g_then ?_ | refine g_in_normal ?_ | refine g_then_ret ?_ | refine g_in_ret ?_ | refine g_then_exit ?_ | refine g_in_exit rfl ?_ | refine g_in_exit_ne (by decide) ?_ | refine g_seq ?_ | refine g_region ?_ | refine g_block ?_ | refine g_ret ?_ | refine g_return_n ?_ | refine g_exit ?_ | refine g_skip ?_)
  exact ret1 (K := []) rfl (resT rfl) ⟨rfl, rfl⟩
end Go.Proofs.Ytdpbjoldgiikkaa
/- Elements of one row, numbered: what working memory set to them comes to. Plain law, no program in sight. -/
namespace Go.Proofs.Ytdpbjoldgiikkaa
open Go Go.Sl

theorem symN_cmp (a b : Int) : (symN a).cmp (symN b) = cmpI a b := by
  have h := linS.refl ByteArray.empty
  simp only [SymD.cmp, symN, lex, h, if_pos]
  rw [if_pos (linI.refl 2)]
theorem exT_cmp (a b t u : Int) : (exT a t).cmp (exT b u) = cmpI a b := by
  have h1 : (exT a t).id.cmp (exT b u).id = 0 := linSym.refl _
  have h2 : (exT a t).attr.cmp (exT b u).attr = 0 := linSym.refl _
  have h3 : (exT a t).value.cmp (exT b u).value = cmpI a b := symN_cmp a b
  have h4 : cmpB (exT a t).acc (exT b u).acc = 0 := rfl
  simp only [ElemD.cmp, lex, h1, h2, h3, h4, if_pos]
  split
  · rename_i h; exact h.symm
  · rfl
theorem exE_T (a : Int) : exE a = exT a 0 := rfl
theorem cmpN_lt {a b : Int} : cmpI a b < 0 ↔ a < b := by
  unfold cmpI; constructor
  · intro h; split at h
    · assumption
    · split at h <;> omega
  · intro h; rw [if_pos h]; decide
theorem cmpN_eq {a b : Int} : cmpI a b = 0 ↔ a = b := ⟨cmpI_zero, fun h => by subst h; simp [cmpI]⟩
def seqE (n : Nat) : List ElemD := (List.range n).map fun (i : Nat) => exE (i : Int)
def tagS (n : Nat) : List ElemD := (List.range n).map fun (i : Nat) => exT (i : Int) (1 + (i : Int))
def dupE (n : Nat) : List ElemD := (List.range n).flatMap fun (i : Nat) => [exE (i : Int), exE (i : Int)]
theorem seqE_succ (n : Nat) : seqE (n + 1) = seqE n ++ [exE (n : Int)] := by simp [seqE, List.range_succ]
theorem tagS_succ (n : Nat) : tagS (n + 1) = tagS n ++ [exT (n : Int) (1 + (n : Int))] := by simp [tagS, List.range_succ]
theorem dupE_succ (n : Nat) : dupE (n + 1) = dupE n ++ [exE (n : Int), exE (n : Int)] := by simp [dupE, List.range_succ, List.flatMap_append]
theorem seqE_len (n : Nat) : (seqE n).length = n := by simp [seqE]
theorem tagS_len (n : Nat) : (tagS n).length = n := by simp [tagS]
theorem dupE_len (n : Nat) : (dupE n).length = 2 * n := by
  induction n with
  | zero => rfl
  | succ n ih => rw [dupE_succ, List.length_append, ih]; simp; omega
theorem sortE_snoc (l : List ElemD) (x : ElemD) : sortE (l ++ [x]) = insC ElemD.cmp (sortE l) x := by unfold sortE; rw [List.foldl_append]; rfl
theorem ins_seq (n : Nat) : insC ElemD.cmp (seqE n) (exE (n : Int)) = seqE (n + 1) := by
  rw [insL_last, seqE_succ]
  intro z hz
  obtain ⟨i, hi, rfl⟩ := List.mem_map.1 hz
  have := List.mem_range.1 hi
  rw [exE_T, exE_T, exT_cmp]
  exact cmpN_lt.2 (by omega)
theorem ins_seq2 (n : Nat) : insC ElemD.cmp (seqE (n + 1)) (exE (n : Int)) = seqE (n + 1) := by
  unfold insC
  rw [if_pos]
  rw [List.any_eq_true]
  exact ⟨exE (n : Int), by rw [seqE_succ]; simp, decide_eq_true (linElem.refl _)⟩
theorem sort_seq (n : Nat) : sortE (seqE n) = seqE n := by
  induction n with
  | zero => rfl
  | succ n ih => conv => lhs; rw [seqE_succ, sortE_snoc, ih, ins_seq]
theorem sort_dup (n : Nat) : sortE (dupE n) = seqE n := by
  induction n with
  | zero => rfl
  | succ n ih =>
    rw [dupE_succ, show dupE n ++ [exE (n : Int), exE (n : Int)] = (dupE n ++ [exE (n : Int)]) ++ [exE (n : Int)] by simp, sortE_snoc, sortE_snoc, ih, ins_seq, ins_seq2]
theorem tag_seq (n : Nat) : tagD 1 (seqE n) = tagS n := by
  induction n with
  | zero => rfl
  | succ n ih => rw [seqE_succ, tagD_snoc, ih, tagS_succ, seqE_len]; rfl
theorem valid40 : ((List.range 40).all fun (i : Nat) => validE (exE (i : Int))) = true := by kernel_rfl
theorem valid_seq {n : Nat} (h : n ≤ 40) : (seqE n).all validE = true := List.all_eq_true.2 fun e he => by
  obtain ⟨i, hi, rfl⟩ := List.mem_map.1 he
  exact List.all_eq_true.1 valid40 i (List.mem_range.2 (by have := List.mem_range.1 hi; omega))
theorem valid_dup {n : Nat} (h : n ≤ 40) : (dupE n).all validE = true := List.all_eq_true.2 fun e he => by
  obtain ⟨i, hi, he⟩ := List.mem_flatMap.1 he
  have : e = exE (i : Int) := by simpa using he
  rw [this]
  exact List.all_eq_true.1 valid40 i (List.mem_range.2 (by have := List.mem_range.1 hi; omega))
theorem stays_goal {l : List ElemD} {o : ElemD} (h : ∀ x ∈ l, x.goal = o.goal) : staysD l o = hasC ElemD.cmp l o := by
  unfold staysD
  rw [← getM_isSome]
  cases hg : getM ElemD.cmp l o with
  | none => rfl
  | some x => simp [h x (getM_mem hg).1]
theorem has_map {n i : Nat} (f : Nat → Int) (t : Int) : hasC ElemD.cmp ((List.range n).map fun (k : Nat) => exT (k : Int) (f k)) (exT (i : Int) t) = decide (i < n) := by
  unfold hasC
  rw [Bool.eq_iff_iff, List.any_eq_true, decide_eq_true_eq]
  constructor
  · rintro ⟨z, hz, hc⟩
    obtain ⟨k, hk, rfl⟩ := List.mem_map.1 hz
    have hc := of_decide_eq_true hc
    rw [exT_cmp, cmpN_eq] at hc
    have := List.mem_range.1 hk
    omega
  · exact fun h => ⟨exT (i : Int) (f i), List.mem_map.2 ⟨i, List.mem_range.2 h, rfl⟩, decide_eq_true (by rw [exT_cmp, cmpN_eq])⟩
theorem stays_seq (m i : Nat) (t : Int) : staysD (seqE m) (exT (i : Int) t) = decide (i < m) := by
  rw [stays_goal]; exact has_map (fun _ => 0) t
  intro x hx
  obtain ⟨k, _, rfl⟩ := List.mem_map.1 hx
  rfl
theorem stays_tag (w i : Nat) : staysD (tagS w) (exE (i : Int)) = decide (i < w) := by
  rw [stays_goal]; exact has_map (fun k => 1 + (k : Int)) 0
  intro x hx
  obtain ⟨k, _, rfl⟩ := List.mem_map.1 hx
  rfl
theorem filt_lt (n k : Nat) : ((List.range n).filter fun i => decide (i < k)).length = min n k := by
  induction n with
  | zero => simp
  | succ n ih =>
    rw [List.range_succ, List.filter_append, List.length_append, ih]
    by_cases h : n < k <;> simp [h] <;> omega
theorem filt_ge (n k : Nat) : ((List.range n).filter fun i => !decide (i < k)).length = n - k := by
  induction n with
  | zero => simp
  | succ n ih =>
    rw [List.range_succ, List.filter_append, List.length_append, ih]
    by_cases h : n < k <;> simp [h] <;> omega
theorem fresh_len (m w : Nat) : (freshD (seqE m) (tagS w)).length = m - w := by
  unfold freshD
  rw [show seqE m = (List.range m).map fun (i : Nat) => exE (i : Int) from rfl, List.filter_map, List.length_map]
  rw [← filt_ge m w]
  congr 2
  funext i
  exact congrArg (!·) (stays_tag w i)
theorem gone_len (m w : Nat) : (goneD (seqE m) (tagS w)).length = w - m := by
  unfold goneD
  rw [show tagS w = (List.range w).map fun (i : Nat) => exT (i : Int) (1 + (i : Int)) from rfl, List.filter_map, List.length_map]
  rw [← filt_ge w m]
  congr 2
  funext i
  exact congrArg (!·) (stays_seq m i _)
theorem stay_len (m w : Nat) : (stayD (seqE m) (tagS w)).length = min w m := by
  unfold stayD
  rw [show tagS w = (List.range w).map fun (i : Nat) => exT (i : Int) (1 + (i : Int)) from rfl, List.filter_map, List.length_map]
  rw [← filt_lt w m]
  congr 2
  funext i
  exact stays_seq m i _
theorem set_dup {room : Int} {n : Nat} (h : n ≤ 40) : setD room 1 [] (dupE n) = if (n : Int) ≤ room then ⟨tagS n, [], 0, 1 + (n : Int), tagS n⟩ else ⟨[], [], 23, 1, []⟩ := by
  by_cases hr : (n : Int) ≤ room
  · rw [if_pos hr, setD_ok (valid_dup h) (by rw [sort_dup, seqE_len]; omega), sort_dup]
    have e : freshD (seqE n) [] = seqE n := List.filter_eq_self.2 fun _ _ => rfl
    rw [e, tag_seq, seqE_len]
    rfl
  · rw [if_neg hr, setD_full (valid_dup h) (by rw [sort_dup, seqE_len]; omega)]
structure Rm (room next : Int) (w m : Nat) (r : RD) : Prop where
  full : room < (m : Int) → r = ⟨[], [], 23, next, tagS w⟩
  ok : ¬ room < (m : Int) → r.err = 0 ∧ r.added.length = m - w ∧ r.gone.length = w - m ∧ r.ts.length = m
theorem set_seq {room next : Int} {w m : Nat} (h : m ≤ 40) : Rm room next w m (setD room next (tagS w) (seqE m)) :=
  ⟨fun hr => setD_full (valid_seq h) (by rw [sort_seq, seqE_len]; exact hr), fun hr => by
    rw [setD_ok (valid_seq h) (by rw [sort_seq, seqE_len]; exact hr), sort_seq]
    refine ⟨rfl, by rw [tagD_len, fresh_len], gone_len m w, ?_⟩
    rw [List.length_append, tagD_len, fresh_len, stay_len]; omega⟩
end Go.Proofs.Ytdpbjoldgiikkaa
/- Numbers within bounds. -/
namespace Go.Proofs.Ytdpbjoldgiikkaa
open Go Go.Sl
attribute [local irreducible] Code.wpIn roundPost bodyPostM runL Ret Meets Begin

theorem within_tmod (a : Int) (n : Nat) (hn : 0 < n) : (if a.tmod n < 0 then a.tmod n + n else a.tmod n) = ((a % (n : Int)).toNat : Int) ∧ -(n : Int) < a.tmod n ∧ a.tmod n < n := by
  have h0 : 0 ≤ a % (n : Int) := Int.emod_nonneg _ (by omega)
  have h1 : a % (n : Int) < n := Int.emod_lt_of_pos _ (by omega)
  rw [Int.toNat_of_nonneg h0, Int.tmod_eq_emod]
  by_cases hc : 0 ≤ a ∨ (n : Int) ∣ a
  · rw [if_pos hc]
    exact ⟨by rw [if_neg (by omega)]; omega, by omega, by omega⟩
  · rw [if_neg hc]
    simp only [Int.natAbs_natCast]
    have h3 : a % (n : Int) ≠ 0 := fun e => hc (.inr (Int.dvd_of_emod_eq_zero e))
    exact ⟨by rw [if_pos (by omega)]; omega, by omega, by omega⟩
theorem Within_spec (a : Int) (n : Nat) (hn : 0 < n) (hn2 : n ≤ 1000000000) : Ctr Try.prog 16 [.int .i64 a, .int .i64 (n : Int)] [] (fun v M => v = .int .i64 ((a % (n : Int)).toNat : Int) ∧ M = []) := by
  obtain ⟨h1, h2, h3⟩ := within_tmod a n hn
  refine spec_of Try.func16 rfl Try.ntmps16 rfl fun w0 F => ?_
  -- ponder/ponderkeep.Within
  repeat (first | refine g_endt ?_ | refine g_end ?_ | refine g_then ?_ | refine g_in_normal ?_ | refine g_then_ret ?_ | refine g_in_ret ?_ | refine g_then_exit ?_ | refine g_in_exit rfl ?_ | refine g_in_exit_ne (by decide) ?_ | refine g_seq ?_ | refine g_region ?_ | refine g_block ?_ | refine g_ret ?_ | refine g_return_n ?_ | refine g_exit ?_ | refine g_skip ?_)
  refine o_assign ?_
  first | refine g_endt ?_ | refine g_end ?_
  repeat (first | refine g_endt ?_ | refine g_end ?_ | refine g_then ?_ | refine g_in_normal ?_ | refine g_then_ret ?_ | refine g_in_ret ?_ | refine g_then_exit ?_ | refine g_in_exit rfl ?_ | refine g_in_exit_ne (by decide) ?_ | refine g_seq ?_ | refine g_region ?_ | refine g_block ?_ | refine g_ret ?_ | refine g_return_n ?_ | refine g_exit ?_ | refine g_skip ?_)
  refine o_move ?_
  refine o_lss rfl rfl ?_
  first | refine g_endt ?_ | refine g_end ?_
  first | refine g_seq (g_cond_f rfl (by simp; omega) ?_) | refine g_cond_f rfl (by simp; omega) ?_
  repeat (first | refine g_endt ?_ | refine g_end ?_ | refine g_then ?_ | refine g_in_normal ?_ | refine g_then_ret ?_ | refine g_in_ret ?_ | refine g_then_exit ?_ | refine g_in_exit rfl ?_ | refine g_in_exit_ne (by decide) ?_ | refine g_seq ?_ | refine g_region ?_ | refine g_block ?_ | refine g_ret ?_ | refine g_return_n ?_ | refine g_exit ?_ | refine g_skip ?_)
  refine o_move ?_
  refine o_move ?_
  refine o_rem rfl rfl (by omega) ?_
  refine o_assign ?_
  first | refine g_endt ?_ | refine g_end ?_
  generalize a.tmod n = t at h1 h2 h3 ⊢
  repeat (first | refine g_endt ?_ | refine g_end ?_ | refine g_then ?_ | refine g_in_normal ?_ | refine g_then_ret ?_ | refine g_in_ret ?_ | refine g_then_exit ?_ | refine g_in_exit rfl ?_ | refine g_in_exit_ne (by decide) ?_ | refine g_seq ?_ | refine g_region ?_ | refine g_block ?_ | refine g_ret ?_ | refine g_return_n ?_ | refine g_exit ?_ | refine g_skip ?_)
  refine o_move ?_
  refine o_lss rfl rfl ?_
  first | refine g_endt ?_ | refine g_end ?_
  by_cases h : t < 0
  · first | refine g_seq (g_cond_t rfl (by simpa using h) ?_) | refine g_cond_t rfl (by simpa using h) ?_
    rw [if_pos h] at h1
    repeat (first | refine g_endt ?_ | refine g_end ?_ | refine g_then ?_ | refine g_in_normal ?_ | refine g_then_ret ?_ | refine g_in_ret ?_ | refine g_then_exit ?_ | refine g_in_exit rfl ?_ | refine g_in_exit_ne (by decide) ?_ | refine g_seq ?_ | refine g_region ?_ | refine g_block ?_ | refine g_ret ?_ | refine g_return_n ?_ | refine g_exit ?_ | refine g_skip ?_)
    refine o_move ?_
    refine o_move ?_
    refine o_add (c := ((a % (n : Int)).toNat : Int)) rfl rfl h1 (by omega) (by omega) ?_
    refine o_assign ?_
    first | refine g_endt ?_ | refine g_end ?_
    repeat (first | refine g_endt ?_ | refine g_end ?_ | refine g_then ?_ | refine g_in_normal ?_ | refine g_then_ret ?_ | refine g_in_ret ?_ | refine g_then_exit ?_ | refine g_in_exit rfl ?_ | refine g_in_exit_ne (by decide) ?_ | refine g_seq ?_ | refine g_region ?_ | refine g_block ?_ | refine g_ret ?_ | refine g_return_n ?_ | refine g_exit ?_ | refine g_skip ?_)
    refine o_move ?_
    refine o_assign ?_
    first | refine g_endt ?_ | refine g_end ?_
    repeat (first | refine g_endt ?_ | refine g_end ?_ | refine g_then ?_ | refine g_in_normal ?_ | refine g_then_ret ?_ | refine g_in_ret ?_ | refine g_then_exit ?_ | refine g_in_exit rfl ?_ | refine g_in_exit_ne (by decide) ?_ | refine g_seq ?_ | refine g_region ?_ | refine g_block ?_ | refine g_ret ?_ | refine g_return_n ?_ | refine g_exit ?_ | refine g_skip ?_)
    exact ret1 rfl (resT rfl) ⟨rfl, rfl⟩
  · first | refine g_seq (g_cond_f rfl (by simpa using h) ?_) | refine g_cond_f rfl (by simpa using h) ?_
    rw [if_neg h] at h1
    repeat (first | refine g_endt ?_ | refine g_end ?_ | refine g_then ?_ | refine g_in_normal ?_ | refine g_then_ret ?_ | refine g_in_ret ?_ | refine g_then_exit ?_ | refine g_in_exit rfl ?_ | refine g_in_exit_ne (by decide) ?_ | refine g_seq ?_ | refine g_region ?_ | refine g_block ?_ | refine g_ret ?_ | refine g_return_n ?_ | refine g_exit ?_ | refine g_skip ?_)
    refine o_move ?_
    refine o_assign ?_
    first | refine g_endt ?_ | refine g_end ?_
    repeat (first | refine g_endt ?_ | refine g_end ?_ | refine g_then ?_ | refine g_in_normal ?_ | refine g_then_ret ?_ | refine g_in_ret ?_ | refine g_then_exit ?_ | refine g_in_exit rfl ?_ | refine g_in_exit_ne (by decide) ?_ | refine g_seq ?_ | refine g_region ?_ | refine g_block ?_ | refine g_ret ?_ | refine g_return_n ?_ | refine g_exit ?_ | refine g_skip ?_)
    rw [h1]
    exact ret1 rfl (resT rfl) ⟨rfl, rfl⟩
end Go.Proofs.Ytdpbjoldgiikkaa
/- The law on rooms, walked. -/
namespace Go.Proofs.Ytdpbjoldgiikkaa
open Go Go.Sl
attribute [local irreducible] Exit.then Exit.inBlock Code.wpIn roundPost bodyPostM runL Ret Meets MeetsD Begin

theorem dup_small {n : Nat} : ∀ e ∈ dupE n, e.small := fun e he => by
  obtain ⟨i, hi, he⟩ := List.mem_flatMap.1 he
  have : e = exE (i : Int) := by simpa using he
  rw [this]; exact exE_small _
theorem seq_small {n : Nat} : ∀ e ∈ seqE n, e.small := fun e he => by
  obtain ⟨i, hi, rfl⟩ := List.mem_map.1 he
  exact exE_small _
theorem dup_step {i n : Nat} (h : i < n) : dupE (min (i + 1) n) = dupE (min i n) ++ [exE (i : Int), exE (i : Int)] := by
  rw [Nat.min_eq_left (by omega), Nat.min_eq_left (by omega), dupE_succ]
theorem seq_step {i n : Nat} (h : i < n) : seqE (min (i + 1) n) = seqE (min i n) ++ [exE (i : Int)] := by
  rw [Nat.min_eq_left (by omega), Nat.min_eq_left (by omega), seqE_succ]
theorem min_step {i n : Nat} (h : ¬ i < n) : min (i + 1) n = min i n := by omega
theorem within_lt {a : Int} {n k : Nat} (hn : 0 < n) (h : (a % (n : Int)).toNat = k) : k < n := by
  have := Int.emod_lt_of_pos a (show (0 : Int) < (n : Int) by omega)
  have := Int.emod_nonneg a (show (n : Int) ≠ 0 by omega)
  omega
theorem LenK_spec (s : Nat) (room next : Int) (ts : List ElemD) {k : Nat} (h : ts.length = k) : Ctr Try.prog 19 [.pointer (some ⟨s, 0, none⟩)] [StP s room next ts] (fun v M => v = .int .i64 (k : Int) ∧ M = [StP s room next ts]) := by
  rw [← h]; exact LenSt_spec s room next ts
set_option maxHeartbeats 4000000 in
theorem MemRooms_spec (room n0 m0 : Int) : Ctr Try.prog 4 [.int .i64 room, .int .i64 n0, .int .i64 m0] [] (fun v M => v = .bool true ∧ M = []) := by
  refine spec_of Try.func4 rfl Try.ntmps4 rfl fun w0 F => ?_
  -- hide
  -- ponder/ponderlaw10.MemRooms
  obtain ⟨r0, hr0⟩ : ∃ k : Nat, (room % ((30 : Nat) : Int)).toNat = k := ⟨_, rfl⟩
  obtain ⟨n, hn⟩ : ∃ k : Nat, (n0 % ((40 : Nat) : Int)).toNat = k := ⟨_, rfl⟩
  obtain ⟨m, hm⟩ : ∃ k : Nat, (m0 % ((40 : Nat) : Int)).toNat = k := ⟨_, rfl⟩
  have hr1 := within_lt (by decide) hr0
  have hn1 := within_lt (by decide) hn
  have hm1 := within_lt (by decide) hm
  obtain ⟨rm, hrm⟩ : ∃ rm : Nat, 1 + r0 = rm := ⟨_, rfl⟩
  repeat (first | refine g_endt ?_ | refine g_end ?_ | refine g_then ?_ | refine g_in_normal ?_ | refine g_then_ret ?_ | refine g_in_ret ?_ | refine g_then_exit ?_ | refine g_in_exit rfl ?_ | refine g_in_exit_ne (by decide) ?_ | refine g_seq ?_ | refine g_region ?_ | refine g_block ?_ | refine g_ret ?_ | refine g_return_n ?_ | refine g_exit ?_ | refine g_skip ?_)
  refine g_hideR fun Q_ hQ_ => ?_
  refine o_assign ?_
  refine g_end (G.imp (hQ_ .normal _) ?_)
  clear hQ_ Q_
  try refine g_then ?_
  repeat (first | refine g_endt ?_ | refine g_end ?_ | refine g_then ?_ | refine g_in_normal ?_ | refine g_then_ret ?_ | refine g_in_ret ?_ | refine g_then_exit ?_ | refine g_in_exit rfl ?_ | refine g_in_exit_ne (by decide) ?_ | refine g_seq ?_ | refine g_region ?_ | refine g_block ?_ | refine g_ret ?_ | refine g_return_n ?_ | refine g_exit ?_ | refine g_skip ?_)
  refine g_hideR fun Q_ hQ_ => ?_
  refine o_move ?_
  refine o_call (Within_spec room 30 (by omega) (by omega)) rfl rfl ?_
  rintro _ _ ⟨rfl, rfl⟩
  refine o_add (c := (rm : Int)) rfl rfl (by omega) (by omega) (by omega) ?_
  refine o_assign ?_
  refine g_end (G.imp (hQ_ .normal _) ?_)
  clear hQ_ Q_
  try refine g_then ?_
  repeat (first | refine g_endt ?_ | refine g_end ?_ | refine g_then ?_ | refine g_in_normal ?_ | refine g_then_ret ?_ | refine g_in_ret ?_ | refine g_then_exit ?_ | refine g_in_exit rfl ?_ | refine g_in_exit_ne (by decide) ?_ | refine g_seq ?_ | refine g_region ?_ | refine g_block ?_ | refine g_ret ?_ | refine g_return_n ?_ | refine g_exit ?_ | refine g_skip ?_)
  refine g_hideR fun Q_ hQ_ => ?_
  refine o_move ?_
  refine o_call (Within_spec n0 40 (by omega) (by omega)) rfl rfl ?_
  rintro _ _ ⟨rfl, rfl⟩
  refine o_move ?_
  refine o_call (Within_spec m0 40 (by omega) (by omega)) rfl rfl ?_
  rintro _ _ ⟨rfl, rfl⟩
  refine o_assign ?_
  refine o_assign ?_
  refine g_end (G.imp (hQ_ .normal _) ?_)
  clear hQ_ Q_
  try refine g_then ?_
  rw [hn, hm]
  repeat (first | refine g_endt ?_ | refine g_end ?_ | refine g_then ?_ | refine g_in_normal ?_ | refine g_then_ret ?_ | refine g_in_ret ?_ | refine g_then_exit ?_ | refine g_in_exit rfl ?_ | refine g_in_exit_ne (by decide) ?_ | refine g_seq ?_ | refine g_region ?_ | refine g_block ?_ | refine g_ret ?_ | refine g_return_n ?_ | refine g_exit ?_ | refine g_skip ?_)
  refine g_hideR fun Q_ hQ_ => ?_
  refine o_move ?_
  refine o_call (NewG_spec (rm : Int) (by omega) (by omega)) rfl rfl ?_
  rintro _ _ ⟨s, rfl, rfl⟩
  refine o_move ?_
  refine o_extract rfl rfl ?_
  refine o_extract rfl rfl ?_
  refine o_assign ?_
  refine o_assign ?_
  refine g_end (G.imp (hQ_ .normal _) ?_)
  clear hQ_ Q_
  try refine g_then ?_
  repeat (first | refine g_endt ?_ | refine g_end ?_ | refine g_then ?_ | refine g_in_normal ?_ | refine g_then_ret ?_ | refine g_in_ret ?_ | refine g_then_exit ?_ | refine g_in_exit rfl ?_ | refine g_in_exit_ne (by decide) ?_ | refine g_seq ?_ | refine g_region ?_ | refine g_block ?_ | refine g_ret ?_ | refine g_return_n ?_ | refine g_exit ?_ | refine g_skip ?_)
  refine g_hideR fun Q_ hQ_ => ?_
  refine o_move ?_
  refine o_neq rfl rfl ?_
  refine o_move ?_
  first | (refine o_want rfl rfl rfl rfl rfl ?_; refine o_move ?_) | refine o_unwanted rfl rfl rfl rfl rfl ?_ | refine o_undef rfl rfl rfl ?_
  first | (refine o_want rfl rfl rfl rfl rfl ?_; refine o_peql rfl ?_) | refine o_unwanted rfl rfl rfl rfl rfl ?_ | refine o_undef rfl rfl rfl ?_
  first | refine o_pick_t rfl rfl ?_ | refine o_pick_f rfl rfl ?_
  refine g_end (G.imp (hQ_ .normal _) ?_)
  clear hQ_ Q_
  try refine g_then ?_
  first | refine g_seq (g_cond_f rfl (by first | rfl | (simp; done) | (simp; omega) | (simp; assumption)) ?_) | refine g_cond_f rfl (by first | rfl | (simp; done) | (simp; omega) | (simp; assumption)) ?_
  repeat (first | refine g_endt ?_ | refine g_end ?_ | refine g_then ?_ | refine g_in_normal ?_ | refine g_then_ret ?_ | refine g_in_ret ?_ | refine g_then_exit ?_ | refine g_in_exit rfl ?_ | refine g_in_exit_ne (by decide) ?_ | refine g_seq ?_ | refine g_region ?_ | refine g_block ?_ | refine g_ret ?_ | refine g_return_n ?_ | refine g_exit ?_ | refine g_skip ?_)
  refine g_hideR fun Q_ hQ_ => ?_
  refine o_assign ?_
  refine o_assign ?_
  refine g_end (G.imp (hQ_ .normal _) ?_)
  clear hQ_ Q_
  try refine g_then ?_
  repeat (first | refine g_endt ?_ | refine g_end ?_ | refine g_then ?_ | refine g_in_normal ?_ | refine g_then_ret ?_ | refine g_in_ret ?_ | refine g_then_exit ?_ | refine g_in_exit rfl ?_ | refine g_in_exit_ne (by decide) ?_ | refine g_seq ?_ | refine g_region ?_ | refine g_block ?_ | refine g_ret ?_ | refine g_return_n ?_ | refine g_exit ?_ | refine g_skip ?_)
  refine g_hideR fun Q_ hQ_ => ?_
  refine o_assign ?_
  refine g_end (G.imp (hQ_ .normal _) ?_)
  clear hQ_ Q_
  try refine g_then ?_
  refine G.nil_slice 25 encE 12 ?_
  refine G.nil_slice 25 encE 12 ?_
  repeat (first | refine g_endt ?_ | refine g_end ?_ | refine g_then ?_ | refine g_in_normal ?_ | refine g_then_ret ?_ | refine g_in_ret ?_ | refine g_then_exit ?_ | refine g_in_exit rfl ?_ | refine g_in_exit_ne (by decide) ?_ | refine g_seq ?_ | refine g_region ?_ | refine g_block ?_ | refine g_ret ?_ | refine g_return_n ?_ | refine g_exit ?_ | refine g_skip ?_)
  refine g_loop (σ := {t : Nat × (Option Addr × Nat) × (Option Addr × Nat) // t.1 ≤ max n m}) (S := fun t => [(0, .int .i64 (rm : Int)), (1, .int .i64 (n : Int)), (2, .int .i64 (m : Int)), (7, .pointer (some ⟨s, 0, none⟩)), (9, .slice t.1.2.1.1 (dupE (min t.1.1 n)).length t.1.2.1.2), (10, .slice t.1.2.2.1 (seqE (min t.1.1 m)).length t.1.2.2.2), (11, .int .i64 (t.1.1 : Int))])
    (H := fun t => [oE t.1.2.1.1 t.1.2.1.2 (dupE (min t.1.1 n)), oE t.1.2.2.1 t.1.2.2.2 (seqE (min t.1.1 m)), StP s (rm : Int) 1 []]) (μ := fun t => max n m - t.1.1) (s0 := ⟨(0, (none, 0), (none, 0)), Nat.zero_le _⟩)
    (Sat.mem ⟨rfl, rfl, rfl, rfl, (show Value.slice none 0 0 = Value.slice none (dupE (min 0 n)).length 0 by rw [Nat.zero_min]; rfl), (show Value.slice none 0 0 = Value.slice none (seqE (min 0 m)).length 0 by rw [Nat.zero_min]; rfl), rfl, trivial⟩)
    (t := by
      show Take _ [oE none 0 (dupE (min 0 n)), oE none 0 (seqE (min 0 m)), StP s (rm : Int) 1 []] _
      rw [Nat.zero_min, Nat.zero_min]
      exact (inferInstance : Take [oE none 0 [], oE none 0 [], StP s (rm : Int) 1 []] [oE none 0 [], oE none 0 [], StP s (rm : Int) 1 []] _)) ?_
  rintro ⟨⟨i, ⟨U, u⟩, ⟨V, v⟩⟩, hi⟩ ρ'
  dsimp only at hi ⊢
  have hdl := dupE_len (min i n)
  have hsl := seqE_len (min i m)
  repeat (first | refine g_endt ?_ | refine g_end ?_ | refine g_then ?_ | refine g_in_normal ?_ | refine g_then_ret ?_ | refine g_in_ret ?_ | refine g_then_exit ?_ | refine g_in_exit rfl ?_ | refine g_in_exit_ne (by decide) ?_ | refine g_seq ?_ | refine g_region ?_ | refine g_block ?_ | refine g_ret ?_ | refine g_return_n ?_ | refine g_exit ?_ | refine g_skip ?_)
  refine g_hideR fun Q_ hQ_ => ?_
  refine o_move ?_
  refine o_move ?_
  refine o_move ?_
  refine o_max rfl rfl ?_
  refine o_lss rfl rfl ?_
  refine g_end (G.imp (hQ_ .normal _) ?_)
  clear hQ_ Q_
  try refine g_then ?_
  by_cases hin : i < max n m
  · first | refine g_seq (g_cond_t rfl (by simp only [decide_eq_true_eq]; omega) ?_) | refine g_cond_t rfl (by simp only [decide_eq_true_eq]; omega) ?_
    have hd1 := fun h : i < n => dup_step h
    have hs1 := fun h : i < m => seq_step h
    have hd0 := fun h : ¬ i < n => congrArg dupE (min_step h)
    have hs0 := fun h : ¬ i < m => congrArg seqE (min_step h)
    generalize dupE (min i n) = da at hd1 hd0 hdl ⊢
    generalize seqE (min i m) = sb at hs1 hs0 hsl ⊢
    repeat (first | refine g_endt ?_ | refine g_end ?_ | refine g_then ?_ | refine g_in_normal ?_ | refine g_then_ret ?_ | refine g_in_ret ?_ | refine g_then_exit ?_ | refine g_in_exit rfl ?_ | refine g_in_exit_ne (by decide) ?_ | refine g_seq ?_ | refine g_region ?_ | refine g_block ?_ | refine g_ret ?_ | refine g_return_n ?_ | refine g_exit ?_ | refine g_skip ?_)
    refine g_hideR fun Q_ hQ_ => ?_
    refine o_move ?_
    refine o_call (N_spec (i : Int)) rfl rfl ?_
    rintro _ _ ⟨rfl, rfl⟩
    refine o_call (E_spec 1 ⟨#[120]⟩ (symN (i : Int))) rfl rfl ?_
    rintro _ _ ⟨rfl, rfl⟩
    refine o_alloc fun q => ?_
    refine o_store (v := (exE (i : Int)).val) rfl rfl rfl rfl rfl ?_
    refine g_end (G.imp (hQ_ .normal _) ?_)
    clear hQ_ Q_
    try refine g_then ?_
    refine G.norm q (exE (i : Int)).val.cells rfl ?_
    refine g_seq ?_
    refine g_cutk (σ := Option Addr × Nat) (ds' := []) (S := fun t => [(0, .int .i64 (rm : Int)), (1, .int .i64 (n : Int)), (2, .int .i64 (m : Int)), (7, .pointer (some ⟨s, 0, none⟩)), (9, .slice t.1 (dupE (min (i + 1) n)).length t.2), (10, .slice V sb.length v), (11, .int .i64 (i : Int)), (12, .pointer (some ⟨q, 0, none⟩))]) (H := fun t => [oE t.1 t.2 (dupE (min (i + 1) n)), oE V v sb, StP s (rm : Int) 1 [], cellsB q (exE (i : Int)).val.cells 25]) (ok := fun _ => True) ?_ ?_
    · skip
      repeat (first | refine g_endt ?_ | refine g_end ?_ | refine g_then ?_ | refine g_in_normal ?_ | refine g_then_ret ?_ | refine g_in_ret ?_ | refine g_then_exit ?_ | refine g_in_exit rfl ?_ | refine g_in_exit_ne (by decide) ?_ | refine g_seq ?_ | refine g_region ?_ | refine g_block ?_ | refine g_ret ?_ | refine g_return_n ?_ | refine g_exit ?_ | refine g_skip ?_)
      refine g_hideR fun Q_ hQ_ => ?_
      refine o_move ?_
      refine o_move ?_
      refine o_lss rfl rfl ?_
      refine g_end (G.imp (hQ_ .normal _) ?_)
      clear hQ_ Q_
      try refine g_then ?_
      by_cases hlt : i < n
      · first | refine g_seq (g_cond_t rfl (by simpa using hlt) ?_) | refine g_cond_t rfl (by simpa using hlt) ?_
        rw [hd1 hlt]
        repeat (first | refine g_endt ?_ | refine g_end ?_ | refine g_then ?_ | refine g_in_normal ?_ | refine g_then_ret ?_ | refine g_in_ret ?_ | refine g_then_exit ?_ | refine g_in_exit rfl ?_ | refine g_in_exit_ne (by decide) ?_ | refine g_seq ?_ | refine g_region ?_ | refine g_block ?_ | refine g_ret ?_ | refine g_return_n ?_ | refine g_exit ?_ | refine g_skip ?_)
        refine g_hideR fun Q_ hQ_ => ?_
        refine o_move ?_
        refine o_loadN (v := (exE (i : Int)).val) rfl rfl rfl ?_
        refine o_loadN (v := (exE (i : Int)).val) rfl rfl rfl ?_
        refine o_litP (e := 25) encE [(exE (i : Int)), (exE (i : Int))] ((exE (i : Int)).val.cells ++ (exE (i : Int)).val.cells) (fun w => by kernel_rfl) (by simp [encE]) (by simp [maxLen]) fun b1 => ?_
        refine o_append (xs := da) (ys := [(exE (i : Int)), (exE (i : Int))]) rfl rfl rfl rfl rfl (fun _ => .inr trivial) (by simp [maxLen]; omega) (by simp; omega) fun U2 u2 => ?_
        refine o_assign ?_
        refine g_end (G.imp (hQ_ .normal _) ?_)
        clear hQ_ Q_
        try refine g_then ?_
        exact g_meets (U2, u2) trivial (Sat.mem ⟨rfl, rfl, rfl, rfl, (show Value.slice U2 (da.length + [(exE (i : Int)), (exE (i : Int))].length) u2 = Value.slice U2 (da ++ [(exE (i : Int)), (exE (i : Int))]).length u2 by rw [List.length_append]), rfl, rfl, rfl, trivial⟩)
      · first | refine g_seq (g_cond_f rfl (by simpa using hlt) ?_) | refine g_cond_f rfl (by simpa using hlt) ?_
        rw [hd0 hlt]
        repeat (first | refine g_endt ?_ | refine g_end ?_ | refine g_then ?_ | refine g_in_normal ?_ | refine g_then_ret ?_ | refine g_in_ret ?_ | refine g_then_exit ?_ | refine g_in_exit rfl ?_ | refine g_in_exit_ne (by decide) ?_ | refine g_seq ?_ | refine g_region ?_ | refine g_block ?_ | refine g_ret ?_ | refine g_return_n ?_ | refine g_exit ?_ | refine g_skip ?_)
        exact g_meets (U, u) trivial (Sat.mem ⟨rfl, rfl, rfl, rfl, rfl, rfl, rfl, rfl, trivial⟩)
    rintro ⟨U2, u2⟩ ρ2 _
    dsimp only
    repeat (first | refine g_endt ?_ | refine g_end ?_ | refine g_then ?_ | refine g_in_normal ?_ | refine g_then_ret ?_ | refine g_in_ret ?_ | refine g_then_exit ?_ | refine g_in_exit rfl ?_ | refine g_in_exit_ne (by decide) ?_ | refine g_seq ?_ | refine g_region ?_ | refine g_block ?_ | refine g_ret ?_ | refine g_return_n ?_ | refine g_exit ?_ | refine g_skip ?_)
    refine g_hideR fun Q_ hQ_ => ?_
    refine o_move ?_
    refine o_move ?_
    refine o_lss rfl rfl ?_
    refine g_end (G.imp (hQ_ .normal _) ?_)
    clear hQ_ Q_
    try refine g_then ?_
    by_cases hlt : i < m
    · have hs1 := hs1 hlt
      first | refine g_seq (g_cond_t rfl (by simpa using hlt) ?_) | refine g_cond_t rfl (by simpa using hlt) ?_
      repeat (first | refine g_endt ?_ | refine g_end ?_ | refine g_then ?_ | refine g_in_normal ?_ | refine g_then_ret ?_ | refine g_in_ret ?_ | refine g_then_exit ?_ | refine g_in_exit rfl ?_ | refine g_in_exit_ne (by decide) ?_ | refine g_seq ?_ | refine g_region ?_ | refine g_block ?_ | refine g_ret ?_ | refine g_return_n ?_ | refine g_exit ?_ | refine g_skip ?_)
      refine g_hideR fun Q_ hQ_ => ?_
      refine o_move ?_
      refine o_loadN (v := (exE (i : Int)).val) rfl rfl rfl ?_
      refine o_litP (e := 25) encE [(exE (i : Int))] ((exE (i : Int))).val.cells (fun w => by kernel_rfl) (by simp [encE]) (by simp [maxLen]) fun _ => ?_
      refine o_append (xs := sb) (ys := [(exE (i : Int))]) (by first | rfl | (simp only [List.length_map, List.length_take, List.length_append]; first | rfl | (congr 1; omega))) rfl rfl rfl rfl (fun _ => .inr trivial) (by simp [maxLen]; omega) (by simp; omega) fun V2 v2 => ?_
      refine o_assign ?_
      refine g_end (G.imp (hQ_ .normal _) ?_)
      clear hQ_ Q_
      try refine g_then ?_
      rw [← hs1]
      repeat (first | refine g_endt ?_ | refine g_end ?_ | refine g_then ?_ | refine g_in_normal ?_ | refine g_then_ret ?_ | refine g_in_ret ?_ | refine g_then_exit ?_ | refine g_in_exit rfl ?_ | refine g_in_exit_ne (by decide) ?_ | refine g_seq ?_ | refine g_region ?_ | refine g_block ?_ | refine g_ret ?_ | refine g_return_n ?_ | refine g_exit ?_ | refine g_skip ?_)
      repeat (first | refine g_endt ?_ | refine g_end ?_ | refine g_then ?_ | refine g_in_normal ?_ | refine g_then_ret ?_ | refine g_in_ret ?_ | refine g_then_exit ?_ | refine g_in_exit rfl ?_ | refine g_in_exit_ne (by decide) ?_ | refine g_seq ?_ | refine g_region ?_ | refine g_block ?_ | refine g_ret ?_ | refine g_return_n ?_ | refine g_exit ?_ | refine g_skip ?_)
      refine g_hideR fun Q_ hQ_ => ?_
      refine o_move ?_
      refine o_add (c := ((i + 1 : Nat) : Int)) rfl rfl (by omega) (by omega) (by omega) ?_
      refine o_assign ?_
      refine g_end (G.imp (hQ_ .normal _) ?_)
      clear hQ_ Q_
      try refine g_then ?_
      repeat (first | refine g_endt ?_ | refine g_end ?_ | refine g_then ?_ | refine g_in_normal ?_ | refine g_then_ret ?_ | refine g_in_ret ?_ | refine g_then_exit ?_ | refine g_in_exit rfl ?_ | refine g_in_exit_ne (by decide) ?_ | refine g_seq ?_ | refine g_region ?_ | refine g_block ?_ | refine g_ret ?_ | refine g_return_n ?_ | refine g_exit ?_ | refine g_skip ?_)
      exact g_meets ⟨(i + 1, (U2, u2), (V2, v2)), hin⟩ (by show max n m - (i + 1) < max n m - i; omega) (Sat.mem ⟨rfl, rfl, rfl, rfl, rfl, (show Value.slice V2 (sb.length + 1) v2 = Value.slice V2 (seqE (min (i + 1) m)).length v2 by rw [hs1, List.length_append]; rfl), rfl, trivial⟩)
    · have hs0 := hs0 hlt
      first | refine g_seq (g_cond_f rfl (by simpa using hlt) ?_) | refine g_cond_f rfl (by simpa using hlt) ?_
      rw [← hs0]
      repeat (first | refine g_endt ?_ | refine g_end ?_ | refine g_then ?_ | refine g_in_normal ?_ | refine g_then_ret ?_ | refine g_in_ret ?_ | refine g_then_exit ?_ | refine g_in_exit rfl ?_ | refine g_in_exit_ne (by decide) ?_ | refine g_seq ?_ | refine g_region ?_ | refine g_block ?_ | refine g_ret ?_ | refine g_return_n ?_ | refine g_exit ?_ | refine g_skip ?_)
      repeat (first | refine g_endt ?_ | refine g_end ?_ | refine g_then ?_ | refine g_in_normal ?_ | refine g_then_ret ?_ | refine g_in_ret ?_ | refine g_then_exit ?_ | refine g_in_exit rfl ?_ | refine g_in_exit_ne (by decide) ?_ | refine g_seq ?_ | refine g_region ?_ | refine g_block ?_ | refine g_ret ?_ | refine g_return_n ?_ | refine g_exit ?_ | refine g_skip ?_)
      refine g_hideR fun Q_ hQ_ => ?_
      refine o_move ?_
      refine o_add (c := ((i + 1 : Nat) : Int)) rfl rfl (by omega) (by omega) (by omega) ?_
      refine o_assign ?_
      refine g_end (G.imp (hQ_ .normal _) ?_)
      clear hQ_ Q_
      try refine g_then ?_
      repeat (first | refine g_endt ?_ | refine g_end ?_ | refine g_then ?_ | refine g_in_normal ?_ | refine g_then_ret ?_ | refine g_in_ret ?_ | refine g_then_exit ?_ | refine g_in_exit rfl ?_ | refine g_in_exit_ne (by decide) ?_ | refine g_seq ?_ | refine g_region ?_ | refine g_block ?_ | refine g_ret ?_ | refine g_return_n ?_ | refine g_exit ?_ | refine g_skip ?_)
      exact g_meets ⟨(i + 1, (U2, u2), (V, v)), hin⟩ (by show max n m - (i + 1) < max n m - i; omega) (Sat.mem ⟨rfl, rfl, rfl, rfl, rfl, rfl, rfl, trivial⟩)
  first | refine g_seq (g_cond_f rfl (by simp only [decide_eq_false_iff_not]; omega) ?_) | refine g_cond_f rfl (by simp only [decide_eq_false_iff_not]; omega) ?_
  rw [show min i n = n by omega, show min i m = m by omega] at *
  refine G.bring [oE U u (dupE n)] ?_
  refine G.frz ?_
  refine G.bring [oE V v (seqE m)] ?_
  refine G.frz ?_
  have hset := set_dup (room := (rm : Int)) (n := n) (by omega)
  obtain ⟨wz, hwz⟩ : ∃ wz : Nat, (if n ≤ rm then n else 0) = wz := ⟨_, rfl⟩
  have hset2 : setD (rm : Int) 1 [] (dupE n) = ⟨tagS wz, [], (if n ≤ rm then 0 else 23), 1 + (wz : Int), tagS wz⟩ := by
    rw [hset, ← hwz]
    by_cases h : n ≤ rm
    · rw [if_pos (by omega), if_pos h, if_pos h]
    · rw [if_neg (by omega), if_neg h, if_neg h]; rfl
  have hwl : wz ≤ 40 := by rw [← hwz]; split <;> omega
  have htl := tagS_len wz
  repeat (first | refine g_endt ?_ | refine g_end ?_ | refine g_then ?_ | refine g_in_normal ?_ | refine g_then_ret ?_ | refine g_in_ret ?_ | refine g_then_exit ?_ | refine g_in_exit rfl ?_ | refine g_in_exit_ne (by decide) ?_ | refine g_seq ?_ | refine g_region ?_ | refine g_block ?_ | refine g_ret ?_ | refine g_return_n ?_ | refine g_exit ?_ | refine g_skip ?_)
  refine g_hideR fun Q_ hQ_ => ?_
  refine o_move ?_
  refine o_move ?_
  refine o_call (SetK_spec s (rm : Int) 1 [] U (dupE n).length u (dupE n) rfl (by omega) dup_small (by simp) (by omega) ⟨by omega, by omega⟩ hset2) rfl rfl ?_
  rintro _ _ ⟨U3, u3, W3, w3, rfl, rfl⟩
  refine o_move ?_
  refine o_extract rfl rfl ?_
  refine o_extract rfl rfl ?_
  refine o_extract rfl rfl ?_
  refine o_assign ?_
  refine o_assign ?_
  refine o_assign ?_
  refine g_end (G.imp (hQ_ .normal _) ?_)
  clear hQ_ Q_
  try refine g_then ?_
  repeat (first | refine g_endt ?_ | refine g_end ?_ | refine g_then ?_ | refine g_in_normal ?_ | refine g_then_ret ?_ | refine g_in_ret ?_ | refine g_then_exit ?_ | refine g_in_exit rfl ?_ | refine g_in_exit_ne (by decide) ?_ | refine g_seq ?_ | refine g_block ?_ | refine g_ret ?_ | refine g_return_n ?_ | refine g_exit ?_ | refine g_skip ?_)
  refine g_cutk (σ := Unit) (ds' := []) (S := fun _ => [(0, .int .i64 (rm : Int)), (2, .int .i64 (m : Int)), (7, .pointer (some ⟨s, 0, none⟩)), (10, .slice V (seqE m).length v), (93, .bool false)]) (H := fun _ => [StP s (rm : Int) (1 + (wz : Int)) (tagS wz), psl encE 12 V (seqE m)]) (ok := fun _ => True) ?_ ?_
  · by_cases h : n ≤ rm
    · rw [if_pos h]
      repeat (first | refine g_endt ?_ | refine g_end ?_ | refine g_then ?_ | refine g_in_normal ?_ | refine g_then_ret ?_ | refine g_in_ret ?_ | refine g_then_exit ?_ | refine g_in_exit rfl ?_ | refine g_in_exit_ne (by decide) ?_ | refine g_seq ?_ | refine g_region ?_ | refine g_block ?_ | refine g_ret ?_ | refine g_return_n ?_ | refine g_exit ?_ | refine g_skip ?_)
      refine g_hideR fun Q_ hQ_ => ?_
      refine o_move ?_
      refine o_eql rfl rfl ?_
      refine o_move ?_
      refine o_move ?_
      refine o_leq rfl rfl ?_
      rw [show decide ((n : Int) ≤ (rm : Int)) = true from decide_eq_true (by omega)]
      refine o_neqty rfl rfl (eq_bool true true) ?_
      refine o_move ?_
      first | (refine o_want rfl rfl rfl rfl rfl ?_; refine o_move ?_) | refine o_unwanted rfl rfl rfl rfl rfl ?_ | refine o_undef rfl rfl rfl ?_
      first | (refine o_want rfl rfl rfl rfl rfl ?_; refine o_neq rfl rfl ?_) | refine o_unwanted rfl rfl rfl rfl rfl ?_ | refine o_undef rfl rfl rfl ?_
      first | (refine o_want rfl rfl rfl rfl rfl ?_; refine o_move ?_) | refine o_unwanted rfl rfl rfl rfl rfl ?_ | refine o_undef rfl rfl rfl ?_
      first | (refine o_want rfl rfl rfl rfl rfl ?_; refine o_move ?_) | refine o_unwanted rfl rfl rfl rfl rfl ?_ | refine o_undef rfl rfl rfl ?_
      first | (refine o_want rfl rfl rfl rfl rfl ?_; refine o_neq rfl rfl ?_) | refine o_unwanted rfl rfl rfl rfl rfl ?_ | refine o_undef rfl rfl rfl ?_
      first | (refine o_want rfl rfl rfl rfl rfl ?_; refine o_move ?_) | refine o_unwanted rfl rfl rfl rfl rfl ?_ | refine o_undef rfl rfl rfl ?_
      first | (refine o_want rfl rfl rfl rfl rfl ?_; refine o_move ?_) | refine o_unwanted rfl rfl rfl rfl rfl ?_ | refine o_undef rfl rfl rfl ?_
      first | refine o_unwanted rfl rfl rfl rfl rfl ?_ | refine o_undef rfl rfl rfl ?_
      first | (refine o_want rfl rfl rfl rfl rfl ?_; refine o_neq rfl rfl ?_) | refine o_unwanted rfl rfl rfl rfl rfl ?_ | refine o_undef rfl rfl rfl ?_
      first | (refine o_want rfl rfl rfl rfl rfl ?_; (first | refine o_pick_t rfl rfl ?_ | refine o_pick_f rfl rfl ?_)) | refine o_unwanted rfl rfl rfl rfl rfl ?_ | refine o_undef rfl rfl rfl ?_
      first | (refine o_want rfl rfl rfl rfl rfl ?_; refine o_move ?_) | refine o_unwanted rfl rfl rfl rfl rfl ?_ | refine o_undef rfl rfl rfl ?_
      first | (refine o_want rfl rfl rfl rfl rfl ?_; refine o_move ?_) | refine o_unwanted rfl rfl rfl rfl rfl ?_ | refine o_undef rfl rfl rfl ?_
      first | refine o_unwanted rfl rfl rfl rfl rfl ?_ | refine o_undef rfl rfl rfl ?_
      first | (refine o_want rfl rfl rfl rfl rfl ?_; refine o_neq rfl rfl ?_) | refine o_unwanted rfl rfl rfl rfl rfl ?_ | refine o_undef rfl rfl rfl ?_
      first | (refine o_want rfl rfl rfl rfl rfl ?_; (first | refine o_pick_t rfl rfl ?_ | refine o_pick_f rfl rfl ?_)) | refine o_unwanted rfl rfl rfl rfl rfl ?_ | refine o_undef rfl rfl rfl ?_
      first | (refine o_want rfl rfl rfl rfl rfl ?_; (first | refine o_pick_t rfl rfl ?_ | refine o_pick_f rfl rfl ?_)) | refine o_unwanted rfl rfl rfl rfl rfl ?_ | refine o_undef rfl rfl rfl ?_
      first | refine o_pick_t rfl rfl ?_ | refine o_pick_f rfl rfl ?_
      refine g_end (G.imp (hQ_ .normal _) ?_)
      clear hQ_ Q_
      try refine g_then ?_
      exact g_meets () trivial (Sat.mem ⟨rfl, rfl, rfl, rfl, rfl, trivial⟩)
    · rw [if_neg h]
      rw [if_neg h] at hwz
      subst hwz
      repeat (first | refine g_endt ?_ | refine g_end ?_ | refine g_then ?_ | refine g_in_normal ?_ | refine g_then_ret ?_ | refine g_in_ret ?_ | refine g_then_exit ?_ | refine g_in_exit rfl ?_ | refine g_in_exit_ne (by decide) ?_ | refine g_seq ?_ | refine g_region ?_ | refine g_block ?_ | refine g_ret ?_ | refine g_return_n ?_ | refine g_exit ?_ | refine g_skip ?_)
      refine g_hideR fun Q_ hQ_ => ?_
      refine o_move ?_
      refine o_eql rfl rfl ?_
      refine o_move ?_
      refine o_move ?_
      refine o_leq rfl rfl ?_
      rw [show decide ((n : Int) ≤ (rm : Int)) = false from decide_eq_false (by omega)]
      refine o_neqty rfl rfl (eq_bool false false) ?_
      refine o_move ?_
      first | (refine o_want rfl rfl rfl rfl rfl ?_; refine o_move ?_) | refine o_unwanted rfl rfl rfl rfl rfl ?_ | refine o_undef rfl rfl rfl ?_
      first | (refine o_want rfl rfl rfl rfl rfl ?_; refine o_neq rfl rfl ?_) | refine o_unwanted rfl rfl rfl rfl rfl ?_ | refine o_undef rfl rfl rfl ?_
      first | (refine o_want rfl rfl rfl rfl rfl ?_; refine o_move ?_) | refine o_unwanted rfl rfl rfl rfl rfl ?_ | refine o_undef rfl rfl rfl ?_
      first | (refine o_want rfl rfl rfl rfl rfl ?_; refine o_move ?_) | refine o_unwanted rfl rfl rfl rfl rfl ?_ | refine o_undef rfl rfl rfl ?_
      first | (refine o_want rfl rfl rfl rfl rfl ?_; refine o_neq rfl rfl ?_) | refine o_unwanted rfl rfl rfl rfl rfl ?_ | refine o_undef rfl rfl rfl ?_
      first | (refine o_want rfl rfl rfl rfl rfl ?_; refine o_move ?_) | refine o_unwanted rfl rfl rfl rfl rfl ?_ | refine o_undef rfl rfl rfl ?_
      first | (refine o_want rfl rfl rfl rfl rfl ?_; refine o_move ?_) | refine o_unwanted rfl rfl rfl rfl rfl ?_ | refine o_undef rfl rfl rfl ?_
      refine o_want rfl rfl rfl rfl rfl (o_call (LenSt_spec s (rm : Int) (1 + ((0 : Nat) : Int)) (tagS 0)) rfl rfl ?_)
      rintro _ _ ⟨rfl, rfl⟩
      first | (refine o_want rfl rfl rfl rfl rfl ?_; refine o_neq rfl rfl ?_) | refine o_unwanted rfl rfl rfl rfl rfl ?_ | refine o_undef rfl rfl rfl ?_
      first | (refine o_want rfl rfl rfl rfl rfl ?_; (first | refine o_pick_t rfl rfl ?_ | refine o_pick_f rfl rfl ?_)) | refine o_unwanted rfl rfl rfl rfl rfl ?_ | refine o_undef rfl rfl rfl ?_
      first | (refine o_want rfl rfl rfl rfl rfl ?_; refine o_move ?_) | refine o_unwanted rfl rfl rfl rfl rfl ?_ | refine o_undef rfl rfl rfl ?_
      first | (refine o_want rfl rfl rfl rfl rfl ?_; refine o_move ?_) | refine o_unwanted rfl rfl rfl rfl rfl ?_ | refine o_undef rfl rfl rfl ?_
      refine o_want rfl rfl rfl rfl rfl (o_call (NextSt_spec s (rm : Int) (1 + ((0 : Nat) : Int)) (tagS 0)) rfl rfl ?_)
      rintro _ _ ⟨rfl, rfl⟩
      first | (refine o_want rfl rfl rfl rfl rfl ?_; refine o_neq rfl rfl ?_) | refine o_unwanted rfl rfl rfl rfl rfl ?_ | refine o_undef rfl rfl rfl ?_
      first | (refine o_want rfl rfl rfl rfl rfl ?_; (first | refine o_pick_t rfl rfl ?_ | refine o_pick_f rfl rfl ?_)) | refine o_unwanted rfl rfl rfl rfl rfl ?_ | refine o_undef rfl rfl rfl ?_
      first | (refine o_want rfl rfl rfl rfl rfl ?_; (first | refine o_pick_t rfl rfl ?_ | refine o_pick_f rfl rfl ?_)) | refine o_unwanted rfl rfl rfl rfl rfl ?_ | refine o_undef rfl rfl rfl ?_
      first | refine o_pick_t rfl rfl ?_ | refine o_pick_f rfl rfl ?_
      refine g_end (G.imp (hQ_ .normal _) ?_)
      clear hQ_ Q_
      try refine g_then ?_
      exact g_meets () trivial (Sat.mem ⟨rfl, rfl, rfl, rfl, rfl, trivial⟩)
  intro _ ρ3 _
  first | refine g_seq (g_cond_f rfl (by first | rfl | (simp; done) | (simp; omega) | (simp; assumption)) ?_) | refine g_cond_f rfl (by first | rfl | (simp; done) | (simp; omega) | (simp; assumption)) ?_
  repeat (first | refine g_endt ?_ | refine g_end ?_ | refine g_then ?_ | refine g_in_normal ?_ | refine g_then_ret ?_ | refine g_in_ret ?_ | refine g_then_exit ?_ | refine g_in_exit rfl ?_ | refine g_in_exit_ne (by decide) ?_ | refine g_seq ?_ | refine g_region ?_ | refine g_block ?_ | refine g_ret ?_ | refine g_return_n ?_ | refine g_exit ?_ | refine g_skip ?_)
  refine g_hideR fun Q_ hQ_ => ?_
  refine o_move ?_
  refine o_call (LenK_spec s (rm : Int) (1 + (wz : Int)) (tagS wz) htl) rfl rfl ?_
  rintro _ _ ⟨rfl, rfl⟩
  refine o_assign ?_
  refine g_end (G.imp (hQ_ .normal _) ?_)
  clear hQ_ Q_
  try refine g_then ?_
  obtain ⟨r, hr⟩ : ∃ r, setD (rm : Int) (1 + (wz : Int)) (tagS wz) (seqE m) = r := ⟨_, rfl⟩
  have hrm2 : Rm (rm : Int) (1 + (wz : Int)) wz m r := by rw [← hr]; exact set_seq (by omega)
  have hsl2 := seqE_len m
  repeat (first | refine g_endt ?_ | refine g_end ?_ | refine g_then ?_ | refine g_in_normal ?_ | refine g_then_ret ?_ | refine g_in_ret ?_ | refine g_then_exit ?_ | refine g_in_exit rfl ?_ | refine g_in_exit_ne (by decide) ?_ | refine g_seq ?_ | refine g_region ?_ | refine g_block ?_ | refine g_ret ?_ | refine g_return_n ?_ | refine g_exit ?_ | refine g_skip ?_)
  refine g_hideR fun Q_ hQ_ => ?_
  refine o_move ?_
  refine o_move ?_
  refine o_call (SetK_spec s (rm : Int) (1 + (wz : Int)) (tagS wz) V (seqE m).length v (seqE m) rfl (by omega) seq_small (by omega) (by omega) ⟨by omega, by omega⟩ hr) rfl rfl ?_
  rintro _ _ ⟨U4, u4, W4, w4, rfl, rfl⟩
  refine o_move ?_
  refine o_extract rfl rfl ?_
  refine o_extract rfl rfl ?_
  refine o_extract rfl rfl ?_
  refine o_assign ?_
  refine o_assign ?_
  refine o_assign ?_
  refine g_end (G.imp (hQ_ .normal _) ?_)
  clear hQ_ Q_
  try refine g_then ?_
  repeat (first | refine g_endt ?_ | refine g_end ?_ | refine g_then ?_ | refine g_in_normal ?_ | refine g_then_ret ?_ | refine g_in_ret ?_ | refine g_then_exit ?_ | refine g_in_exit rfl ?_ | refine g_in_exit_ne (by decide) ?_ | refine g_seq ?_ | refine g_region ?_ | refine g_block ?_ | refine g_ret ?_ | refine g_return_n ?_ | refine g_exit ?_ | refine g_skip ?_)
  refine g_hideR fun Q_ hQ_ => ?_
  refine o_move ?_
  refine o_move ?_
  refine o_gtr rfl rfl ?_
  refine g_end (G.imp (hQ_ .normal _) ?_)
  clear hQ_ Q_
  try refine g_then ?_
  by_cases hmr : rm < m
  · obtain rfl := hrm2.full (by omega)
    first | refine g_seq (g_cond_t rfl (by simp only [gt_iff_lt, decide_eq_true_eq]; omega) ?_) | refine g_cond_t rfl (by simp only [gt_iff_lt, decide_eq_true_eq]; omega) ?_
    repeat (first | refine g_endt ?_ | refine g_end ?_ | refine g_then ?_ | refine g_in_normal ?_ | refine g_then_ret ?_ | refine g_in_ret ?_ | refine g_then_exit ?_ | refine g_in_exit rfl ?_ | refine g_in_exit_ne (by decide) ?_ | refine g_seq ?_ | refine g_region ?_ | refine g_block ?_ | refine g_ret ?_ | refine g_return_n ?_ | refine g_exit ?_ | refine g_skip ?_)
    refine g_hideR fun Q_ hQ_ => ?_
    refine o_move ?_
    refine o_eql rfl rfl ?_
    refine o_move ?_
    first | (refine o_want rfl rfl rfl rfl rfl ?_; refine o_move ?_) | refine o_unwanted rfl rfl rfl rfl rfl ?_ | refine o_undef rfl rfl rfl ?_
    first | (refine o_want rfl rfl rfl rfl rfl ?_; refine o_len rfl rfl ?_) | refine o_unwanted rfl rfl rfl rfl rfl ?_ | refine o_undef rfl rfl rfl ?_
    first | (refine o_want rfl rfl rfl rfl rfl ?_; refine o_eql rfl rfl ?_) | refine o_unwanted rfl rfl rfl rfl rfl ?_ | refine o_undef rfl rfl rfl ?_
    first | refine o_pick_t rfl rfl ?_ | refine o_pick_f rfl rfl ?_
    refine o_move ?_
    first | (refine o_want rfl rfl rfl rfl rfl ?_; refine o_move ?_) | refine o_unwanted rfl rfl rfl rfl rfl ?_ | refine o_undef rfl rfl rfl ?_
    first | (refine o_want rfl rfl rfl rfl rfl ?_; refine o_len rfl rfl ?_) | refine o_unwanted rfl rfl rfl rfl rfl ?_ | refine o_undef rfl rfl rfl ?_
    first | (refine o_want rfl rfl rfl rfl rfl ?_; refine o_eql rfl rfl ?_) | refine o_unwanted rfl rfl rfl rfl rfl ?_ | refine o_undef rfl rfl rfl ?_
    first | refine o_pick_t rfl rfl ?_ | refine o_pick_f rfl rfl ?_
    refine o_move ?_
    first | (refine o_want rfl rfl rfl rfl rfl ?_; refine o_move ?_) | refine o_unwanted rfl rfl rfl rfl rfl ?_ | refine o_undef rfl rfl rfl ?_
    refine o_want rfl rfl rfl rfl rfl (o_call (LenK_spec s (rm : Int) (1 + (wz : Int)) (tagS wz) htl) rfl rfl ?_)
    rintro _ _ ⟨rfl, rfl⟩
    first | (refine o_want rfl rfl rfl rfl rfl ?_; refine o_move ?_) | refine o_unwanted rfl rfl rfl rfl rfl ?_ | refine o_undef rfl rfl rfl ?_
    refine o_want rfl rfl rfl rfl rfl (o_eqlT (t := true) rfl rfl (beq_self_eq_true _) ?_)
    first | refine o_pick_t rfl rfl ?_ | refine o_pick_f rfl rfl ?_
    refine o_move ?_
    refine o_want rfl rfl rfl rfl rfl (o_call (wakes10_spec) rfl rfl ?_)
    rintro _ _ ⟨rfl, rfl⟩
    first | refine o_pick_t rfl rfl ?_ | refine o_pick_f rfl rfl ?_
    refine o_assign ?_
    refine g_end (G.imp (hQ_ .normal _) ?_)
    clear hQ_ Q_
    try refine g_then ?_
    repeat (first | refine g_endt ?_ | refine g_end ?_ | refine g_then ?_ | refine g_in_normal ?_ | refine g_then_ret ?_ | refine g_in_ret ?_ | refine g_then_exit ?_ | refine g_in_exit rfl ?_ | refine g_in_exit_ne (by decide) ?_ | refine g_seq ?_ | refine g_region ?_ | refine g_block ?_ | refine g_ret ?_ | refine g_return_n ?_ | refine g_exit ?_ | refine g_skip ?_)
    exact ret1 (K := []) rfl (resT rfl) ⟨rfl, rfl⟩
  · obtain ⟨h1, h2, h3, h4⟩ := hrm2.ok (by omega)
    first | refine g_seq (g_cond_f rfl (by simp only [gt_iff_lt, decide_eq_false_iff_not]; omega) ?_) | refine g_cond_f rfl (by simp only [gt_iff_lt, decide_eq_false_iff_not]; omega) ?_
    repeat (first | refine g_endt ?_ | refine g_end ?_ | refine g_then ?_ | refine g_in_normal ?_ | refine g_then_ret ?_ | refine g_in_ret ?_ | refine g_then_exit ?_ | refine g_in_exit rfl ?_ | refine g_in_exit_ne (by decide) ?_ | refine g_seq ?_ | refine g_region ?_ | refine g_block ?_ | refine g_ret ?_ | refine g_return_n ?_ | refine g_exit ?_ | refine g_skip ?_)
    refine g_hideR fun Q_ hQ_ => ?_
    refine o_move ?_
    refine o_eqlT (t := true) rfl rfl (by rw [h1]; rfl) ?_
    refine o_move ?_
    first | (refine o_want rfl rfl rfl rfl rfl ?_; refine o_move ?_) | refine o_unwanted rfl rfl rfl rfl rfl ?_ | refine o_undef rfl rfl rfl ?_
    refine o_want rfl rfl rfl rfl rfl (o_call (LenK_spec s (rm : Int) r.next r.ts h4) rfl rfl ?_)
    rintro _ _ ⟨rfl, rfl⟩
    first | (refine o_want rfl rfl rfl rfl rfl ?_; refine o_move ?_) | refine o_unwanted rfl rfl rfl rfl rfl ?_ | refine o_undef rfl rfl rfl ?_
    refine o_want rfl rfl rfl rfl rfl (o_eqlT (t := true) rfl rfl (beq_self_eq_true _) ?_)
    first | refine o_pick_t rfl rfl ?_ | refine o_pick_f rfl rfl ?_
    refine o_move ?_
    first | (refine o_want rfl rfl rfl rfl rfl ?_; refine o_move ?_) | refine o_unwanted rfl rfl rfl rfl rfl ?_ | refine o_undef rfl rfl rfl ?_
    first | (refine o_want rfl rfl rfl rfl rfl ?_; refine o_len rfl rfl ?_) | refine o_unwanted rfl rfl rfl rfl rfl ?_ | refine o_undef rfl rfl rfl ?_
    first | (refine o_want rfl rfl rfl rfl rfl ?_; refine o_move ?_) | refine o_unwanted rfl rfl rfl rfl rfl ?_ | refine o_undef rfl rfl rfl ?_
    first | (refine o_want rfl rfl rfl rfl rfl ?_; refine o_move ?_) | refine o_unwanted rfl rfl rfl rfl rfl ?_ | refine o_undef rfl rfl rfl ?_
    refine o_want rfl rfl rfl rfl rfl (o_sub (c := (m : Int) - (wz : Int)) rfl rfl rfl (by omega) (by omega) ?_)
    first | (refine o_want rfl rfl rfl rfl rfl ?_; refine o_max rfl rfl ?_) | refine o_unwanted rfl rfl rfl rfl rfl ?_ | refine o_undef rfl rfl rfl ?_
    refine o_want rfl rfl rfl rfl rfl (o_eqlT (t := true) rfl rfl (by rw [h2, beq_iff_eq]; omega) ?_)
    first | refine o_pick_t rfl rfl ?_ | refine o_pick_f rfl rfl ?_
    refine o_move ?_
    first | (refine o_want rfl rfl rfl rfl rfl ?_; refine o_move ?_) | refine o_unwanted rfl rfl rfl rfl rfl ?_ | refine o_undef rfl rfl rfl ?_
    first | (refine o_want rfl rfl rfl rfl rfl ?_; refine o_len rfl rfl ?_) | refine o_unwanted rfl rfl rfl rfl rfl ?_ | refine o_undef rfl rfl rfl ?_
    first | (refine o_want rfl rfl rfl rfl rfl ?_; refine o_move ?_) | refine o_unwanted rfl rfl rfl rfl rfl ?_ | refine o_undef rfl rfl rfl ?_
    first | (refine o_want rfl rfl rfl rfl rfl ?_; refine o_move ?_) | refine o_unwanted rfl rfl rfl rfl rfl ?_ | refine o_undef rfl rfl rfl ?_
    refine o_want rfl rfl rfl rfl rfl (o_sub (c := (wz : Int) - (m : Int)) rfl rfl rfl (by omega) (by omega) ?_)
    first | (refine o_want rfl rfl rfl rfl rfl ?_; refine o_max rfl rfl ?_) | refine o_unwanted rfl rfl rfl rfl rfl ?_ | refine o_undef rfl rfl rfl ?_
    refine o_want rfl rfl rfl rfl rfl (o_eqlT (t := true) rfl rfl (by rw [h3, beq_iff_eq]; omega) ?_)
    first | refine o_pick_t rfl rfl ?_ | refine o_pick_f rfl rfl ?_
    refine o_move ?_
    refine o_want rfl rfl rfl rfl rfl (o_call (wakes10_spec) rfl rfl ?_)
    rintro _ _ ⟨rfl, rfl⟩
    first | refine o_pick_t rfl rfl ?_ | refine o_pick_f rfl rfl ?_
    refine o_assign ?_
    refine g_end (G.imp (hQ_ .normal _) ?_)
    clear hQ_ Q_
    try refine g_then ?_
    repeat (first | refine g_endt ?_ | refine g_end ?_ | refine g_then ?_ | refine g_in_normal ?_ | refine g_then_ret ?_ | refine g_in_ret ?_ | refine g_then_exit ?_ | refine g_in_exit rfl ?_ | refine g_in_exit_ne (by decide) ?_ | refine g_seq ?_ | refine g_region ?_ | refine g_block ?_ | refine g_ret ?_ | refine g_return_n ?_ | refine g_exit ?_ | refine g_skip ?_)
    exact ret1 (K := []) rfl (resT rfl) ⟨rfl, rfl⟩
end Go.Proofs.Ytdpbjoldgiikkaa
/- Rows of rows. Plain library, no program in sight. -/
namespace Go.Sl
open Go Go.Proofs

/-- A row among rows: where it lies, and what it reads as. -/
structure RowG (α : Type) where
  a : Option Addr
  len : Nat
  cap : Nat
  zs : List α
def encRG {α : Type} (r : RowG α) : List Value := [.slice r.a r.len r.cap]
instance {α : Type} : EncLen (encRG (α := α)) 1 := ⟨fun _ => rfl, fun _ u h => by simp [encRG] at h; subst h; rfl⟩
/-- What each row reads as, for ever. -/
def prowsG {α : Type} (enc : α → List Value) (sz : Nat) (rs : List (RowG α)) : SProp := ⟨fun B _ => ∀ r ∈ rs, rdE r.a enc sz r.zs B, fun l _ h r hr => (h r hr).le l⟩
instance {α : Type} {enc : α → List Value} {sz : Nat} {rs : List (RowG α)} : Pers (prowsG enc sz rs) := ⟨fun _ _ x => x⟩
theorem G.rowG {w0 : World} {A : SProp} {L M : List SProp} {Φ : World → Prop} {α : Type} {enc : α → List Value} {sz : Nat} {rs : List (RowG α)} {r : RowG α} [tk : Take1 L (prowsG enc sz rs) M] (hr : r ∈ rs) (h : G w0 A (psl enc sz r.a r.zs :: L) Φ) : G w0 A L Φ := by
  refine G.ent (L' := psl enc sz r.a r.zs :: L) ?_ h
  refine (sl_perm tk.perm).trans (Ent.trans ?_ ((Ent.refl _).star (sl_perm tk.perm.symm)))
  exact fun B k ⟨k1, k2, d, l1, l2, x, y⟩ => ⟨hnil, k, (Dj.nil _).symm, .nil _, .refl _, x r hr, k1, k2, d, l1, l2, x, y⟩
theorem holds_rowsG {α : Type} {enc : α → List Value} {sz : Nat} {W : World} {K : List SProp} {rs : List (RowG α)} (h : holds (star (whole W) (sl K)) W) (r : ∀ q ∈ rs, rdE q.a enc sz q.zs (hp W)) : holds (star (whole W) (sl (prowsG enc sz rs :: K))) W := by
  obtain ⟨B, k, d, l, m, k1, k2, d12, l1, l2, x, y⟩ := h
  exact ⟨B, k, d, l, m, k1, k2, d12, l1, l2, x, hnil, k2, (Dj.nil _).symm, .nil _, .refl _, fun q hq => rdE.le (r q hq) x, y⟩
end Go.Sl
/- A store into a part of an owned row's element. Plain library, no program in sight. -/
namespace Go.Sl
open Go Go.Proofs Go.RowKit

theorem row_at {α : Type} {enc : α → List Value} {sz : Nat} [e : EncLen enc sz] {xs : List α} {cur : List Value} {i : Nat} {z : α} (h : cur.take (xs.length * sz) = xs.flatMap enc) (hz : xs[i]? = some z) : (cur.drop (i * sz)).take sz = enc z := by
  have hi : i < xs.length := (List.getElem?_eq_some_iff.1 hz).1
  have hle : (i + 1) * sz ≤ xs.length * sz := Nat.mul_le_mul_right _ hi
  have h6 : (i + 1) * sz = i * sz + sz := by rw [Nat.add_mul]; omega
  have h1 : (cur.drop (i * sz)).take sz = ((cur.take (xs.length * sz)).drop (i * sz)).take sz := by
    rw [List.drop_take, List.take_take, Nat.min_eq_left (by omega)]
  rw [h1, h, flat_drop]
  have h2 : xs.drop i = z :: xs.drop (i + 1) := by
    rw [List.drop_eq_getElem_cons hi]
    congr 1
    have := List.getElem?_eq_getElem hi
    rw [this] at hz
    exact Option.some.inj hz
  rw [h2, List.flatMap_cons, List.take_left' (e.len z)]
section
variable {w0 : World} {A : SProp} {L : List SProp} {ro : Option Nat} {P : Program} {Q : Exit → Act → World → Prop} {all : Array Oper} {os : List Oper} {n : Nat} {ρ : Nat → Value} {ds : List Nat}
variable {d : Option Tmp} {ty : TypeId} {pos : String} {af : Array Edge} {x y : Operand}
variable {α : Type} {enc : α → List Value} {sz : Nat} {xs : List α} {S : Option Addr}
/-- A store of a part of an element into an owned row. -/
theorem o_storeF {t e : TypeId} {k c i off : Nat} {v : Value} {z0 z : α} {M : List SProp} (hx : ev n ρ x = padr S (i * sz + off)) (hy : ev n ρ y = v) [tk : Take1 L (osl e enc sz S c xs) M] [el : EncLen enc sz] [ts : TySz P t k] (hz0 : xs[i]? = some z0) (hk : v.cells.toList.length = k)
    (hv : enc z = (enc z0).take off ++ v.cells.toList ++ (enc z0).drop (off + k)) (ho : off + k ≤ sz)
    (h : G w0 A (osl e enc sz S c (xs.set i z) :: M) (fun w => runL ro P all Q os (act n (updo ρ d undef) ds) w)) :
    G w0 A L (fun w => runL ro P all Q ({ dst := d, op := .store t x y, type := ty, pos := pos, after := af, guard := none } :: os) (act n ρ ds) w) := by
  have hi : i < xs.length := (List.getElem?_eq_some_iff.1 hz0).1
  refine o_run rfl fun w hw hh => ?_
  refine ⟨fun _ _ => trivial, ?_⟩
  rw [Oper.semAt_eq _ _ _ (by intro c e; cases e), act_eval]
  have hh1 : holds (star (osl e enc sz S c xs) (star A (sl M))) w := (hh.ent ((Ent.refl A).star (sl_perm tk.perm))).ent (Ent.swap _ _ _)
  have hopen : ∃ g cur, S = some ⟨g, 0, none⟩ ∧ (xs.length ≤ c ∧ c ≤ maxLen ∧ cur.size = c * sz ∧ cur.toList.take (xs.length * sz) = xs.flatMap enc) ∧ holds (star (blk g (.cells cur e (0, 0))) (star A (sl M))) w := by
    obtain ⟨B, k, dd, l, m, k1, k2, d12, l1, l2, hx, hy⟩ := hh1
    rcases hx with ⟨_, rfl, _⟩ | ⟨g, cur, hA, hg, hr⟩
    · simp at hi
    · exact ⟨g, cur, hA, hr, B, k, dd, l, m, k1, k2, d12, l1, l2, hg, hy⟩
  obtain ⟨g, cur, rfl, ⟨h1, h2, h3, h4⟩, hh2⟩ := hopen
  have hbw : w.heap[g]? = some (.cells cur e (0, 0)) := (Sees.left (sees_blk g _)) w hh2
  have hvs : v.cells.size = k := by rw [← Array.length_toList]; exact hk
  have hsz : i * sz + sz ≤ cur.size := by
    rw [h3]
    calc i * sz + sz = (i + 1) * sz := by rw [Nat.add_mul]; omega
      _ ≤ c * sz := Nat.mul_le_mul_right _ (by omega)
  have hone : ∀ u ∈ v.cells.toList, u.oneCell' = true := fun u hu => el.one z u (by rw [hv]; simp [hu])
  have hst := run_storeCells_at (P := P) g (i * sz + off) e v.cells.toList 0 cur w hbw (by rw [hk]; omega) hone
  have hpa : padr (some ⟨g, 0, none⟩) (i * sz + off) = .pointer (some ⟨g, i * sz + off, none⟩) := by rw [padr_some]; simp
  have hrun : (execOp (ev n ρ) { dst := d, op := .store t x y, type := ty, pos := pos, after := af, guard := none }).run P w = .ok .skip (w.setRow g (sto cur (i * sz + off) v.cells)) := by
    simp only [execOp, hx, hy, hpa]
    simp [Instr.storeAt, Instr.sureAddr, storeVar, ts.size, hvs, hst, sto]
  rw [hrun]
  show runL ro P all Q os ((act n ρ ds).put d undef) _
  rw [act_put]
  refine h _ (hw.trans (std_setRow _ _ _)) ?_
  have hh3 := hh2.update (o' := .cells (sto cur (i * sz + off) v.cells) e (0, 0)) (setRow_heap w g cur _ e _ hbw) (fun j hj => hp_setRow_ne w _ hj)
  have hcl : cur.toList.length = c * sz := by rw [Array.length_toList, h3]
  have hat := row_at h4 hz0
  have h6 : (i + 1) * sz = i * sz + sz := by rw [Nat.add_mul]; omega
  have hsize : (sto cur (i * sz + off) v.cells).toList = cur.toList.take (i * sz) ++ enc z ++ cur.toList.drop ((i + 1) * sz) := by
    simp only [sto, hk]
    rw [hv, ← hat, List.take_take, Nat.min_eq_left (by omega), List.drop_take, h6]
    have e1 : cur.toList.take (i * sz + off) = cur.toList.take (i * sz) ++ (cur.toList.drop (i * sz)).take off := by rw [List.take_add]
    have e2 : cur.toList.drop (i * sz + off + k) = ((cur.toList.drop (i * sz)).drop (off + k)).take (sz - (off + k)) ++ cur.toList.drop (i * sz + sz) := by
      have : cur.toList.drop (i * sz + sz) = ((cur.toList.drop (i * sz)).drop (off + k)).drop (sz - (off + k)) := by
        rw [List.drop_drop, List.drop_drop]; congr 1; omega
      rw [this, List.take_append_drop, List.drop_drop]
      congr 1
      omega
    rw [e1, e2]
    simp only [List.append_assoc]
  refine (hh3.ent (Ent.star ?_ (Ent.refl _))).ent (Ent.swap _ _ _)
  intro B k hk
  refine .inr ⟨g, _, rfl, hk, by simpa using h1, h2, ?_, ?_⟩
  · rw [← Array.length_toList, hsize]
    have := el.len z
    simp only [List.length_append, List.length_take, List.length_drop, hcl, this]
    have h5 : (i + 1) * sz ≤ c * sz := Nat.mul_le_mul_right _ (by omega)
    omega
  · rw [hsize, List.length_set, flat_set xs i z hi, ← h4]
    have h5 : (i + 1) * sz ≤ xs.length * sz := Nat.mul_le_mul_right _ hi
    have h7 : xs.length * sz ≤ cur.toList.length := by rw [hcl]; exact Nat.mul_le_mul_right _ h1
    have hl1 : (cur.toList.take (i * sz) ++ enc z).length = (i + 1) * sz := by
      simp only [List.length_append, List.length_take, el.len]; omega
    rw [List.take_take, Nat.min_eq_left (by omega), List.drop_take]
    conv => lhs; rw [show xs.length * sz = (cur.toList.take (i * sz) ++ enc z).length + (xs.length * sz - (i + 1) * sz) by rw [hl1]; omega]
    rw [List.take_length_add_append]
end
end Go.Sl
/- Two lists that read the same. -/
namespace Go.Proofs.Ytdpbjoldgiikkaa
open Go Go.Sl
attribute [local irreducible] Code.wpIn roundPost bodyPostM runL Ret Meets Begin

theorem Elems_spec (A B : Option Addr) (len cap cap' : Nat) (ys : List ElemD) (hl : ys.length = len) (hm : len ≤ 1000000000) : Ctr Try.prog 22 [.slice A len cap, .slice B len cap'] [psl encE 12 A ys, psl encE 12 B ys]
    (fun v M => v = .bool true ∧ M = []) := by
  refine spec_of Try.func22 rfl Try.ntmps22 rfl fun w0 F => ?_
  -- ponder/ponderkeep.Elems
  repeat (first | refine g_endt ?_ | refine g_end ?_ | refine g_then ?_ | refine g_in_normal ?_ | refine g_then_ret ?_ | refine g_in_ret ?_ | refine g_then_exit ?_ | refine g_in_exit rfl ?_ | refine g_in_exit_ne (by decide) ?_ | refine g_seq ?_ | refine g_region ?_ | refine g_block ?_ | refine g_ret ?_ | refine g_return_n ?_ | refine g_exit ?_ | refine g_skip ?_)
  refine o_assign ?_
  first | refine g_endt ?_ | refine g_end ?_
  repeat (first | refine g_endt ?_ | refine g_end ?_ | refine g_then ?_ | refine g_in_normal ?_ | refine g_then_ret ?_ | refine g_in_ret ?_ | refine g_then_exit ?_ | refine g_in_exit rfl ?_ | refine g_in_exit_ne (by decide) ?_ | refine g_seq ?_ | refine g_region ?_ | refine g_block ?_ | refine g_ret ?_ | refine g_return_n ?_ | refine g_exit ?_ | refine g_skip ?_)
  refine o_move ?_
  refine o_len rfl rfl ?_
  refine o_move ?_
  refine o_len rfl rfl ?_
  refine o_neq rfl rfl ?_
  first | refine g_endt ?_ | refine g_end ?_
  first | refine g_seq (g_cond_f rfl (by first | rfl | (simp; done) | (simp; omega) | (simp; assumption)) ?_) | refine g_cond_f rfl (by first | rfl | (simp; done) | (simp; omega) | (simp; assumption)) ?_
  repeat (first | refine g_endt ?_ | refine g_end ?_ | refine g_then ?_ | refine g_in_normal ?_ | refine g_then_ret ?_ | refine g_in_ret ?_ | refine g_then_exit ?_ | refine g_in_exit rfl ?_ | refine g_in_exit_ne (by decide) ?_ | refine g_seq ?_ | refine g_region ?_ | refine g_block ?_ | refine g_ret ?_ | refine g_return_n ?_ | refine g_exit ?_ | refine g_skip ?_)
  refine o_assign ?_
  first | refine g_endt ?_ | refine g_end ?_
  repeat (first | refine g_endt ?_ | refine g_end ?_ | refine g_then ?_ | refine g_in_normal ?_ | refine g_then_ret ?_ | refine g_in_ret ?_ | refine g_then_exit ?_ | refine g_in_exit rfl ?_ | refine g_in_exit_ne (by decide) ?_ | refine g_seq ?_ | refine g_region ?_ | refine g_block ?_ | refine g_ret ?_ | refine g_return_n ?_ | refine g_exit ?_ | refine g_skip ?_)
  refine g_loop (σ := {i : Nat // i ≤ ys.length}) (S := fun i => [(0, .slice A len cap), (1, .slice B len cap'), (5, .int .i64 ((i.1 : Nat) : Int))])
    (H := fun i => [psl encE 12 A ys, psl encE 12 B ys]) (μ := fun i => ys.length - i.1) (s0 := ⟨0, Nat.zero_le _⟩) (Sat.mem ⟨rfl, rfl, rfl, trivial⟩) ?_
  rintro ⟨i, hi⟩ ρ'
  dsimp only
  repeat (first | refine g_endt ?_ | refine g_end ?_ | refine g_then ?_ | refine g_in_normal ?_ | refine g_then_ret ?_ | refine g_in_ret ?_ | refine g_then_exit ?_ | refine g_in_exit rfl ?_ | refine g_in_exit_ne (by decide) ?_ | refine g_seq ?_ | refine g_region ?_ | refine g_block ?_ | refine g_ret ?_ | refine g_return_n ?_ | refine g_exit ?_ | refine g_skip ?_)
  refine o_move ?_
  refine o_move ?_
  refine o_len rfl rfl ?_
  refine o_lss rfl rfl ?_
  first | refine g_endt ?_ | refine g_end ?_
  by_cases h : i < len
  · first | refine g_seq (g_cond_t rfl (by first | rfl | (simp; done) | (simp; omega) | (simp; assumption)) ?_) | refine g_cond_t rfl (by first | rfl | (simp; done) | (simp; omega) | (simp; assumption)) ?_
    have hi' : i < ys.length := by omega
    obtain ⟨e, hz⟩ : ∃ e, ys[i]? = some e := ⟨_, List.getElem?_eq_getElem hi'⟩
    repeat (first | refine g_endt ?_ | refine g_end ?_ | refine g_then ?_ | refine g_in_normal ?_ | refine g_then_ret ?_ | refine g_in_ret ?_ | refine g_then_exit ?_ | refine g_in_exit rfl ?_ | refine g_in_exit_ne (by decide) ?_ | refine g_seq ?_ | refine g_region ?_ | refine g_block ?_ | refine g_ret ?_ | refine g_return_n ?_ | refine g_exit ?_ | refine g_skip ?_)
    refine g_draw [] [0,1,2,3,4,5,6,7,8] [psl encE 12 A ys, psl encE 12 B ys] mixed rfl ?_
    refine ob_q rfl rfl ⟨_, fun X Q h => o_move (g_end (h _ _ ⟨rfl, rfl⟩)), ?_⟩
    refine ob_q rfl rfl ⟨_, fun X Q h => o_move (g_end (h _ _ ⟨rfl, rfl⟩)), ?_⟩
    refine ob_q rfl rfl ⟨_, fun X Q h => o_indexR rfl rfl rfl (by first | assumption | omega) (by first | rfl | assumption | omega) rfl (g_end (h _ _ ⟨rfl, rfl⟩)), ?_⟩
    first | refine ob_q rfl rfl ⟨_, fun X Q h => o_loadN rfl rfl rfl (g_end (h _ _ ⟨rfl, rfl⟩)), ?_⟩ | refine ob_q rfl rfl ⟨_, fun X Q h => o_loadE rfl rfl (by assumption) (g_end (h _ _ ⟨rfl, rfl⟩)), ?_⟩ | refine ob_q rfl rfl ⟨_, fun X Q h => o_loadEN rfl (by assumption) rfl rfl (g_end (h _ _ ⟨rfl, rfl⟩)), ?_⟩
    refine ob_q rfl rfl ⟨_, fun X Q h => o_move (g_end (h _ _ ⟨rfl, rfl⟩)), ?_⟩
    refine ob_q rfl rfl ⟨_, fun X Q h => o_move (g_end (h _ _ ⟨rfl, rfl⟩)), ?_⟩
    refine ob_q rfl rfl ⟨_, fun X Q h => o_indexR rfl rfl rfl (by first | assumption | omega) (by first | rfl | assumption | omega) rfl (g_end (h _ _ ⟨rfl, rfl⟩)), ?_⟩
    first | refine ob_q rfl rfl ⟨_, fun X Q h => o_loadN rfl rfl rfl (g_end (h _ _ ⟨rfl, rfl⟩)), ?_⟩ | refine ob_q rfl rfl ⟨_, fun X Q h => o_loadE rfl rfl (by assumption) (g_end (h _ _ ⟨rfl, rfl⟩)), ?_⟩ | refine ob_q rfl rfl ⟨_, fun X Q h => o_loadEN rfl (by assumption) rfl rfl (g_end (h _ _ ⟨rfl, rfl⟩)), ?_⟩
    refine ob_q rfl rfl ⟨_, fun X Q h => o_neqty rfl rfl (eq_elem e e) (g_end (h _ _ ⟨rfl, rfl⟩)), ?_⟩
    refine ob_nil ?_
    first | refine g_seq (g_cond_f rfl (by simp [ElemD.beq_self]) ?_) | refine g_cond_f rfl (by simp [ElemD.beq_self]) ?_
    repeat (first | refine g_endt ?_ | refine g_end ?_ | refine g_then ?_ | refine g_in_normal ?_ | refine g_then_ret ?_ | refine g_in_ret ?_ | refine g_then_exit ?_ | refine g_in_exit rfl ?_ | refine g_in_exit_ne (by decide) ?_ | refine g_seq ?_ | refine g_region ?_ | refine g_block ?_ | refine g_ret ?_ | refine g_return_n ?_ | refine g_exit ?_ | refine g_skip ?_)
    refine o_move ?_
    refine o_add (c := ((i + 1 : Nat) : Int)) rfl rfl (by omega) (by omega) (by omega) ?_
    refine o_assign ?_
    first | refine g_endt ?_ | refine g_end ?_
    repeat (first | refine g_endt ?_ | refine g_end ?_ | refine g_then ?_ | refine g_in_normal ?_ | refine g_then_ret ?_ | refine g_in_ret ?_ | refine g_then_exit ?_ | refine g_in_exit rfl ?_ | refine g_in_exit_ne (by decide) ?_ | refine g_seq ?_ | refine g_region ?_ | refine g_block ?_ | refine g_ret ?_ | refine g_return_n ?_ | refine g_exit ?_ | refine g_skip ?_)
    exact g_meets (⟨i + 1, hi'⟩) (by first | exact trivial | (dsimp only; omega)) (Sat.mem (by repeat (first | exact trivial | refine And.intro rfl ?_)))
  · first | refine g_seq (g_cond_f rfl (by simp; omega) ?_) | refine g_cond_f rfl (by simp; omega) ?_
    repeat (first | refine g_endt ?_ | refine g_end ?_ | refine g_then ?_ | refine g_in_normal ?_ | refine g_then_ret ?_ | refine g_in_ret ?_ | refine g_then_exit ?_ | refine g_in_exit rfl ?_ | refine g_in_exit_ne (by decide) ?_ | refine g_seq ?_ | refine g_region ?_ | refine g_block ?_ | refine g_ret ?_ | refine g_return_n ?_ | refine g_exit ?_ | refine g_skip ?_)
    refine o_assign ?_
    first | refine g_endt ?_ | refine g_end ?_
    repeat (first | refine g_endt ?_ | refine g_end ?_ | refine g_then ?_ | refine g_in_normal ?_ | refine g_then_ret ?_ | refine g_in_ret ?_ | refine g_then_exit ?_ | refine g_in_exit rfl ?_ | refine g_in_exit_ne (by decide) ?_ | refine g_seq ?_ | refine g_region ?_ | refine g_block ?_ | refine g_ret ?_ | refine g_return_n ?_ | refine g_exit ?_ | refine g_skip ?_)
    exact ret1 rfl (resT rfl) ⟨rfl, rfl⟩
end Go.Proofs.Ytdpbjoldgiikkaa
