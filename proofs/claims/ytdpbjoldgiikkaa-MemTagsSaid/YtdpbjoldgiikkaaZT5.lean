/- Parts of a proof, in order. -/
import Derived.Test.YtdpbjoldgiikkaaZT4
import Derived.Laws.BytesArg

set_option linter.unusedSimpArgs false
set_option linter.unusedVariables false
/- Working memory set to a row of elements: the walk. -/
namespace Go.Proofs.Ytdpbjoldgiikkaa
open Go Go.Sl
attribute [local irreducible] Exit.then Exit.inBlock Code.wpIn roundPost bodyPostM runL Ret Meets MeetsD Begin

theorem setD_bad {room next : Int} {ts l : List ElemD} (h : l.all validE = false) : setD room next ts l = ⟨[], [], 9, next, ts⟩ := by unfold setD; rw [if_pos h]
theorem setD_full {room next : Int} {ts l : List ElemD} (h : l.all validE = true) (h2 : room < ((sortE l).length : Int)) : setD room next ts l = ⟨[], [], 23, next, ts⟩ := by unfold setD; rw [if_neg (by rw [h]; decide), if_pos h2]
theorem setD_ok {room next : Int} {ts l : List ElemD} (h : l.all validE = true) (h2 : ¬ room < ((sortE l).length : Int)) : setD room next ts l = ⟨tagD next (freshD (sortE l) ts), goneD (sortE l) ts, 0, next + (freshD (sortE l) ts).length, stayD (sortE l) ts ++ tagD next (freshD (sortE l) ts)⟩ := by unfold setD; rw [if_neg (by rw [h]; decide), if_neg h2]
theorem sortE_mono (l : List ElemD) (i : Nat) : (sortE (l.take i)).length ≤ (sortE l).length := by
  have : ∀ (m a : List ElemD), a.length ≤ (m.foldl (insC ElemD.cmp) a).length := by
    intro m
    induction m with
    | nil => exact fun a => Nat.le_refl _
    | cons x m ih => intro a; refine Nat.le_trans ?_ (ih _); rw [length_insC]; split <;> omega
  have h : sortE l = (l.drop i).foldl (insC ElemD.cmp) (sortE (l.take i)) := by
    unfold sortE; rw [← List.foldl_append, List.take_append_drop]
  rw [h]; exact this _ _
theorem sortE_srt' (l : List ElemD) : Srt ElemD.cmp (sortE l) := sortE_srt l [] Srt.nil
theorem sortE_len' (l : List ElemD) : (sortE l).length ≤ l.length := by have := sortE_len l []; simpa [sortE] using this
theorem GetKES_spec (p : Nat) (ys : List ElemD) (x : ElemD) (hs : Srt ElemD.cmp ys) (hl : ys.length < 1000000000) {r : Option ElemD} (hr : getM ElemD.cmp ys x = r) : Ctr Try.prog 42 [.pointer (some ⟨p, 0, none⟩), x.val] [SetAES p ys]
    (fun v M => v = .tuple #[(r.getD ElemD.zero).val, .bool r.isSome] ∧ M = [SetAES p ys]) := (GetES_spec p ys x hs hl).mono fun v M ⟨o, h1, h2, h3⟩ => by
  have : getM ElemD.cmp ys x = o := by
    cases o with
    | none =>
      obtain ⟨k, hk⟩ := h3
      have := hasC_of hk
      rw [← getM_isSome] at this
      exact Option.not_isSome_iff_eq_none.1 (by rw [this]; decide)
    | some y =>
      obtain ⟨k, hk, hy⟩ := h3
      obtain ⟨z, hz, e⟩ := hk.2.1 rfl
      rw [hy] at hz; cases hz
      exact getM_of linElem hs (List.mem_of_getElem? hy) e
  rw [← hr, this]; exact ⟨h1, h2⟩
def nxD (n : Int) : Nat → Int
  | 0 => n
  | k + 1 => n + (k + 1 : Nat)
theorem nxD_eq (n : Int) (k : Nat) : nxD n k = n + k := by cases k <;> simp [nxD]
def tsD (stay : List ElemD) : List ElemD → List ElemD
  | [] => stay
  | e :: l => stay ++ e :: l
theorem tsD_eq (stay l : List ElemD) : tsD stay l = stay ++ l := by cases l <;> simp [tsD]
abbrev pT (b p : Nat) : SProp := pblk b (.cells #[.pointer (some ⟨p, 0, none⟩)] 70 (0, 0))
abbrev pE (b p : Nat) : SProp := pblk b (.cells #[.pointer (some ⟨p, 0, none⟩)] 68 (0, 0))
abbrev oE (S : Option Addr) (c : Nat) (l : List ElemD) : SProp := osl 25 encE 12 S c l
abbrev cP1 (q s : Nat) : SProp := cellsB q #[.pointer (some ⟨s, 0, none⟩)] 29
abbrev cL1 (c : Nat) (S : Option Addr) (n k : Nat) : SProp := cellsB c #[.slice S n k] 27
abbrev cW1 (c w : Nat) : SProp := cellsB c #[.pointer (some ⟨w, 0, none⟩)] 68
abbrev setK (s : Nat) (room next : Int) (ts : List ElemD) (A : Option Addr) (l : List ElemD) : List SProp := [StP s room next ts, psl encE 12 A l]
set_option maxHeartbeats 8000000 in
theorem Set10_spec (s : Nat) (room next : Int) (ts : List ElemD) (A : Option Addr) (n c : Nat) (l : List ElemD) (hl : l.length = n) (hm : n ≤ 10000) (hsm : ∀ e ∈ l, e.small) (hts : ts.length ≤ 10000) (hr : 0 ≤ room) (hnx : -1000000000 ≤ next ∧ next ≤ 1000000000) :
    Ctr Try.prog 14 [.pointer (some ⟨s, 0, none⟩), .slice A n c] [StP s room next ts, psl encE 12 A l]
      (fun v M => ∃ U u W w, v = .tuple #[.slice U (setD room next ts l).added.length u, .slice W (setD room next ts l).gone.length w, .int .i64 (setD room next ts l).err] ∧
        M = [StP s room (setD room next ts l).next (setD room next ts l).ts, oE U u (setD room next ts l).added, oE W w (setD room next ts l).gone, psl encE 12 A l]) := by
  refine spec_of Try.func14 rfl Try.ntmps14 rfl fun w0 F => ?_
  -- hide
  -- (*ponder/mem.Store).Set
  refine openSt s room next ts fun a ys hst => ?_
  have hyl := hst.len
  repeat (first | refine g_endt ?_ | refine g_end ?_ | refine g_then ?_ | refine g_in_normal ?_ | refine g_then_ret ?_ | refine g_in_ret ?_ | refine g_then_exit ?_ | refine g_in_exit rfl ?_ | refine g_in_exit_ne (by decide) ?_ | refine g_seq ?_ | refine g_region ?_ | refine g_block ?_ | refine g_ret ?_ | refine g_return_n ?_ | refine g_exit ?_ | refine g_skip ?_)
  refine g_hideR fun Q_ hQ_ => ?_
  refine o_boxc #[.pointer (some ⟨s, 0, none⟩)] rfl rfl fun q => ?_
  refine o_alloc fun c4 => ?_
  refine o_alloc fun c5 => ?_
  refine o_assign ?_
  refine g_end (G.imp (hQ_ .normal _) ?_)
  clear hQ_ Q_
  try refine g_then ?_
  refine G.norm c4 #[.slice none 0 0] rfl ?_
  refine G.norm c5 #[.slice none 0 0] rfl ?_
  repeat (first | refine g_endt ?_ | refine g_end ?_ | refine g_then ?_ | refine g_in_normal ?_ | refine g_then_ret ?_ | refine g_in_ret ?_ | refine g_then_exit ?_ | refine g_in_exit rfl ?_ | refine g_in_exit_ne (by decide) ?_ | refine g_seq ?_ | refine g_region ?_ | refine g_block ?_ | refine g_ret ?_ | refine g_return_n ?_ | refine g_exit ?_ | refine g_skip ?_)
  refine g_hideR fun Q_ hQ_ => ?_
  refine o_call (NewES_spec) rfl rfl ?_
  rintro _ _ ⟨w, rfl, rfl⟩
  refine o_alloc fun c7 => ?_
  refine o_store (v := .pointer (some ⟨w, 0, none⟩)) rfl rfl rfl rfl rfl ?_
  refine g_end (G.imp (hQ_ .normal _) ?_)
  clear hQ_ Q_
  try refine g_then ?_
  refine G.norm c7 #[.pointer (some ⟨w, 0, none⟩)] rfl ?_
  repeat (first | refine g_endt ?_ | refine g_end ?_ | refine g_then ?_ | refine g_in_normal ?_ | refine g_then_ret ?_ | refine g_in_ret ?_ | refine g_then_exit ?_ | refine g_in_exit rfl ?_ | refine g_in_exit_ne (by decide) ?_ | refine g_seq ?_ | refine g_region ?_ | refine g_block ?_ | refine g_ret ?_ | refine g_return_n ?_ | refine g_exit ?_ | refine g_skip ?_)
  refine g_hideR fun Q_ hQ_ => ?_
  refine o_move ?_
  refine o_len rfl rfl ?_
  refine o_move ?_
  refine g_end (G.imp (hQ_ .normal _) ?_)
  clear hQ_ Q_
  try refine g_then ?_
  repeat (first | refine g_endt ?_ | refine g_end ?_ | refine g_then ?_ | refine g_in_normal ?_ | refine g_then_ret ?_ | refine g_in_ret ?_ | refine g_then_exit ?_ | refine g_in_exit rfl ?_ | refine g_in_exit_ne (by decide) ?_ | refine g_seq ?_ | refine g_region ?_ | refine g_block ?_ | refine g_ret ?_ | refine g_return_n ?_ | refine g_exit ?_ | refine g_skip ?_)
  refine g_loop (σ := {i : Nat // i ≤ n ∧ ∀ (j : Nat) (e : ElemD), j < i → l[j]? = some e → validE e = true}) (S := fun i => [(1, .slice A n c), (2, .pointer (some ⟨q, 0, none⟩)), (4, .pointer (some ⟨c4, 0, none⟩)), (5, .pointer (some ⟨c5, 0, none⟩)), (6, .int .i64 0), (7, .pointer (some ⟨c7, 0, none⟩)), (22, .slice A n c), (23, .int .i64 (n : Int)), (24, .int .i64 (i.1 : Int))])
    (H := fun _ => SetAES w [] :: cW1 c7 w :: cL1 c4 none 0 0 :: cL1 c5 none 0 0 :: cP1 q s :: psl encE 12 A l :: stC s room next a :: stK a ts ys) (μ := fun i => n - i.1) (s0 := ⟨0, Nat.zero_le _, fun j e h => absurd h (Nat.not_lt_zero j)⟩) (Sat.mem ⟨rfl, rfl, rfl, rfl, rfl, rfl, rfl, rfl, rfl, trivial⟩)
    (t := (inferInstance : Take _ (SetAES w [] :: cW1 c7 w :: cL1 c4 none 0 0 :: cL1 c5 none 0 0 :: cP1 q s :: psl encE 12 A l :: stC s room next a :: stK a ts ys) _)) ?_
  rintro ⟨i, hi, hlow⟩ ρ'
  dsimp only at hi hlow ⊢
  repeat (first | refine g_endt ?_ | refine g_end ?_ | refine g_then ?_ | refine g_in_normal ?_ | refine g_then_ret ?_ | refine g_in_ret ?_ | refine g_then_exit ?_ | refine g_in_exit rfl ?_ | refine g_in_exit_ne (by decide) ?_ | refine g_seq ?_ | refine g_region ?_ | refine g_block ?_ | refine g_ret ?_ | refine g_return_n ?_ | refine g_exit ?_ | refine g_skip ?_)
  refine g_hideR fun Q_ hQ_ => ?_
  refine o_lss rfl rfl ?_
  refine g_end (G.imp (hQ_ .normal _) ?_)
  clear hQ_ Q_
  try refine g_then ?_
  by_cases hin : i < n
  · skip
    repeat (first | refine g_endt ?_ | refine g_end ?_ | refine g_then ?_ | refine g_in_normal ?_ | refine g_then_ret ?_ | refine g_in_ret ?_ | refine g_then_exit ?_ | refine g_in_exit rfl ?_ | refine g_in_exit_ne (by decide) ?_ | refine g_seq ?_ | refine g_region ?_ | refine g_block ?_ | refine g_ret ?_ | refine g_return_n ?_ | refine g_exit ?_ | refine g_skip ?_)
    first | refine g_seq (g_cond_t rfl (by first | rfl | (simp; done) | (simp; omega) | (simp; assumption)) ?_) | refine g_cond_t rfl (by first | rfl | (simp; done) | (simp; omega) | (simp; assumption)) ?_
    obtain ⟨e, he⟩ : ∃ e, l[i]? = some e := ⟨_, List.getElem?_eq_getElem (by omega)⟩
    repeat (first | refine g_endt ?_ | refine g_end ?_ | refine g_then ?_ | refine g_in_normal ?_ | refine g_then_ret ?_ | refine g_in_ret ?_ | refine g_then_exit ?_ | refine g_in_exit rfl ?_ | refine g_in_exit_ne (by decide) ?_ | refine g_seq ?_ | refine g_region ?_ | refine g_block ?_ | refine g_ret ?_ | refine g_return_n ?_ | refine g_exit ?_ | refine g_skip ?_)
    refine g_hideR fun Q_ hQ_ => ?_
    refine o_indexR (ys := l) (i := i) rfl rfl rfl (by omega) hl rfl ?_
    refine o_loadE (ys := l) rfl rfl he ?_
    refine o_alloc fun c9 => ?_
    refine o_store (v := e.val) rfl rfl rfl rfl rfl ?_
    refine g_end (G.imp (hQ_ .normal _) ?_)
    clear hQ_ Q_
    try refine g_then ?_
    refine G.norm c9 e.val.cells rfl ?_
    repeat (first | refine g_endt ?_ | refine g_end ?_ | refine g_then ?_ | refine g_in_normal ?_ | refine g_then_ret ?_ | refine g_in_ret ?_ | refine g_then_exit ?_ | refine g_in_exit rfl ?_ | refine g_in_exit_ne (by decide) ?_ | refine g_seq ?_ | refine g_region ?_ | refine g_block ?_ | refine g_ret ?_ | refine g_return_n ?_ | refine g_exit ?_ | refine g_skip ?_)
    refine g_hideR fun Q_ hQ_ => ?_
    refine o_loadN (v := e.val) rfl rfl rfl ?_
    refine o_call (ValidM_spec e (hsm e (List.mem_of_getElem? he))) rfl rfl ?_
    rintro _ _ ⟨rfl, rfl⟩
    refine o_not rfl ?_
    refine g_end (G.imp (hQ_ .normal _) ?_)
    clear hQ_ Q_
    try refine g_then ?_
    cases hv : validE e with
    | false =>
      first | refine g_seq (g_cond_t rfl (by first | rfl | (simp; done) | (simp; omega) | (simp; assumption)) ?_) | refine g_cond_t rfl (by first | rfl | (simp; done) | (simp; omega) | (simp; assumption)) ?_
      have hbad : l.all validE = false := by
        rw [List.all_eq_false]; exact ⟨e, List.mem_of_getElem? he, by rw [hv]; decide⟩
      rw [setD_bad hbad]
      repeat (first | refine g_endt ?_ | refine g_end ?_ | refine g_then ?_ | refine g_in_normal ?_ | refine g_then_ret ?_ | refine g_in_ret ?_ | refine g_then_exit ?_ | refine g_in_exit rfl ?_ | refine g_in_exit_ne (by decide) ?_ | refine g_seq ?_ | refine g_region ?_ | refine g_block ?_ | refine g_ret ?_ | refine g_return_n ?_ | refine g_exit ?_ | refine g_skip ?_)
      refine g_hideR fun Q_ hQ_ => ?_
      refine o_store (v := .slice none 0 0) rfl rfl rfl rfl rfl ?_
      refine o_store (v := .slice none 0 0) rfl rfl rfl rfl rfl ?_
      refine o_assign ?_
      refine g_end (G.imp (hQ_ .normal _) ?_)
      clear hQ_ Q_
      try refine g_then ?_
      refine G.norm c4 #[.slice none 0 0] rfl ?_
      refine G.norm c5 #[.slice none 0 0] rfl ?_
      refine shutSt s room next ts a ys hst ?_
      refine G.nil_slice 25 encE 12 ?_
      refine G.nil_slice 25 encE 12 ?_
      repeat (first | refine g_endt ?_ | refine g_end ?_ | refine g_then ?_ | refine g_in_normal ?_ | refine g_then_ret ?_ | refine g_in_ret ?_ | refine g_then_exit ?_ | refine g_in_exit rfl ?_ | refine g_in_exit_ne (by decide) ?_ | refine g_seq ?_ | refine g_region ?_ | refine g_block ?_ | refine g_ret ?_ | refine g_return_n ?_ | refine g_exit ?_ | refine g_skip ?_)
      exact ret3 (K := [StP s room next ts, oE none 0 [], oE none 0 [], psl encE 12 A l]) rfl (resC1 rfl rfl) (resC1 rfl rfl) (resT rfl) ⟨none, 0, none, 0, rfl, rfl⟩
    | true =>
      first | refine g_seq (g_cond_f rfl (by first | rfl | (simp; done) | (simp; omega) | (simp; assumption)) ?_) | refine g_cond_f rfl (by first | rfl | (simp; done) | (simp; omega) | (simp; assumption)) ?_
      repeat (first | refine g_endt ?_ | refine g_end ?_ | refine g_then ?_ | refine g_in_normal ?_ | refine g_then_ret ?_ | refine g_in_ret ?_ | refine g_then_exit ?_ | refine g_in_exit rfl ?_ | refine g_in_exit_ne (by decide) ?_ | refine g_seq ?_ | refine g_region ?_ | refine g_block ?_ | refine g_ret ?_ | refine g_return_n ?_ | refine g_exit ?_ | refine g_skip ?_)
      repeat (first | refine g_endt ?_ | refine g_end ?_ | refine g_then ?_ | refine g_in_normal ?_ | refine g_then_ret ?_ | refine g_in_ret ?_ | refine g_then_exit ?_ | refine g_in_exit rfl ?_ | refine g_in_exit_ne (by decide) ?_ | refine g_seq ?_ | refine g_region ?_ | refine g_block ?_ | refine g_ret ?_ | refine g_return_n ?_ | refine g_exit ?_ | refine g_skip ?_)
      refine g_hideR fun Q_ hQ_ => ?_
      refine o_add (c := ((i + 1 : Nat) : Int)) rfl rfl (by omega) (by omega) (by omega) ?_
      refine o_move ?_
      refine g_end (G.imp (hQ_ .normal _) ?_)
      clear hQ_ Q_
      try refine g_then ?_
      repeat (first | refine g_endt ?_ | refine g_end ?_ | refine g_then ?_ | refine g_in_normal ?_ | refine g_then_ret ?_ | refine g_in_ret ?_ | refine g_then_exit ?_ | refine g_in_exit rfl ?_ | refine g_in_exit_ne (by decide) ?_ | refine g_seq ?_ | refine g_region ?_ | refine g_block ?_ | refine g_ret ?_ | refine g_return_n ?_ | refine g_exit ?_ | refine g_skip ?_)
      have hn : ∀ (j : Nat) (z : ElemD), j < i + 1 → l[j]? = some z → validE z = true := fun j z hj hz => by
        by_cases ej : j = i
        · subst ej; rw [he] at hz; cases hz; exact hv
        · exact hlow j z (by omega) hz
      exact g_meets ⟨i + 1, hin, hn⟩ (by show n - (i + 1) < n - i; omega) (Sat.mem ⟨rfl, rfl, rfl, rfl, rfl, rfl, rfl, rfl, rfl, trivial⟩)
  repeat (first | refine g_endt ?_ | refine g_end ?_ | refine g_then ?_ | refine g_in_normal ?_ | refine g_then_ret ?_ | refine g_in_ret ?_ | refine g_then_exit ?_ | refine g_in_exit rfl ?_ | refine g_in_exit_ne (by decide) ?_ | refine g_seq ?_ | refine g_region ?_ | refine g_block ?_ | refine g_ret ?_ | refine g_return_n ?_ | refine g_exit ?_ | refine g_skip ?_)
  first | refine g_seq (g_cond_f rfl (by simp; omega) ?_) | refine g_cond_f rfl (by simp; omega) ?_
  have hall : l.all validE = true := List.all_eq_true.2 fun e he => by
    obtain ⟨j, hj⟩ := List.mem_iff_getElem?.1 he
    exact hlow j e (by have := (List.getElem?_eq_some_iff.1 hj).1; omega) hj
  repeat (first | refine g_endt ?_ | refine g_end ?_ | refine g_then ?_ | refine g_in_normal ?_ | refine g_then_ret ?_ | refine g_in_ret ?_ | refine g_then_exit ?_ | refine g_in_exit rfl ?_ | refine g_in_exit_ne (by decide) ?_ | refine g_seq ?_ | refine g_region ?_ | refine g_block ?_ | refine g_ret ?_ | refine g_return_n ?_ | refine g_exit ?_ | refine g_skip ?_)
  refine g_hideR fun Q_ hQ_ => ?_
  refine o_move ?_
  refine o_len rfl rfl ?_
  refine o_move ?_
  refine g_end (G.imp (hQ_ .normal _) ?_)
  clear hQ_ Q_
  try refine g_then ?_
  repeat (first | refine g_endt ?_ | refine g_end ?_ | refine g_then ?_ | refine g_in_normal ?_ | refine g_then_ret ?_ | refine g_in_ret ?_ | refine g_then_exit ?_ | refine g_in_exit rfl ?_ | refine g_in_exit_ne (by decide) ?_ | refine g_seq ?_ | refine g_region ?_ | refine g_block ?_ | refine g_ret ?_ | refine g_return_n ?_ | refine g_exit ?_ | refine g_skip ?_)
  refine g_loop (σ := {i : Nat // i ≤ n ∧ ((sortE (l.take i)).length : Int) ≤ room}) (S := fun i => [(1, .slice A n c), (2, .pointer (some ⟨q, 0, none⟩)), (4, .pointer (some ⟨c4, 0, none⟩)), (5, .pointer (some ⟨c5, 0, none⟩)), (6, .int .i64 0), (7, .pointer (some ⟨c7, 0, none⟩)), (32, .slice A n c), (33, .int .i64 (n : Int)), (34, .int .i64 (i.1 : Int))])
    (H := fun i => SetAES w (sortE (l.take i.1)) :: cW1 c7 w :: cL1 c4 none 0 0 :: cL1 c5 none 0 0 :: cP1 q s :: psl encE 12 A l :: stC s room next a :: stK a ts ys) (μ := fun i => n - i.1) (s0 := ⟨0, Nat.zero_le _, by simpa [sortE] using hr⟩) (Sat.mem ⟨rfl, rfl, rfl, rfl, rfl, rfl, rfl, rfl, rfl, trivial⟩)
    (t := (inferInstance : Take _ (SetAES w [] :: cW1 c7 w :: cL1 c4 none 0 0 :: cL1 c5 none 0 0 :: cP1 q s :: psl encE 12 A l :: stC s room next a :: stK a ts ys) _)) ?_
  rintro ⟨k, hk, hroom⟩ ρ2
  dsimp only at hk hroom ⊢
  repeat (first | refine g_endt ?_ | refine g_end ?_ | refine g_then ?_ | refine g_in_normal ?_ | refine g_then_ret ?_ | refine g_in_ret ?_ | refine g_then_exit ?_ | refine g_in_exit rfl ?_ | refine g_in_exit_ne (by decide) ?_ | refine g_seq ?_ | refine g_region ?_ | refine g_block ?_ | refine g_ret ?_ | refine g_return_n ?_ | refine g_exit ?_ | refine g_skip ?_)
  refine g_hideR fun Q_ hQ_ => ?_
  refine o_lss rfl rfl ?_
  refine g_end (G.imp (hQ_ .normal _) ?_)
  clear hQ_ Q_
  try refine g_then ?_
  by_cases hkn : k < n
  · skip
    repeat (first | refine g_endt ?_ | refine g_end ?_ | refine g_then ?_ | refine g_in_normal ?_ | refine g_then_ret ?_ | refine g_in_ret ?_ | refine g_then_exit ?_ | refine g_in_exit rfl ?_ | refine g_in_exit_ne (by decide) ?_ | refine g_seq ?_ | refine g_region ?_ | refine g_block ?_ | refine g_ret ?_ | refine g_return_n ?_ | refine g_exit ?_ | refine g_skip ?_)
    first | refine g_seq (g_cond_t rfl (by first | rfl | (simp; done) | (simp; omega) | (simp; assumption)) ?_) | refine g_cond_t rfl (by first | rfl | (simp; done) | (simp; omega) | (simp; assumption)) ?_
    obtain ⟨e, he⟩ : ∃ e, l[k]? = some e := ⟨_, List.getElem?_eq_getElem (by omega)⟩
    have hsn := sortE_take l k e he
    have hsl := sortE_len' (l.take k)
    have htl : (l.take k).length ≤ k := by simp; omega
    have hss := sortE_srt' (l.take k)
    have hmo := sortE_mono l (k + 1)
    repeat (first | refine g_endt ?_ | refine g_end ?_ | refine g_then ?_ | refine g_in_normal ?_ | refine g_then_ret ?_ | refine g_in_ret ?_ | refine g_then_exit ?_ | refine g_in_exit rfl ?_ | refine g_in_exit_ne (by decide) ?_ | refine g_seq ?_ | refine g_region ?_ | refine g_block ?_ | refine g_ret ?_ | refine g_return_n ?_ | refine g_exit ?_ | refine g_skip ?_)
    refine g_hideR fun Q_ hQ_ => ?_
    refine o_indexR (ys := l) (i := k) rfl rfl rfl (by omega) hl rfl ?_
    refine o_loadE (ys := l) rfl rfl he ?_
    refine o_alloc fun c9 => ?_
    refine o_store (v := e.val) rfl rfl rfl rfl rfl ?_
    refine g_end (G.imp (hQ_ .normal _) ?_)
    clear hQ_ Q_
    try refine g_then ?_
    refine G.norm c9 e.val.cells rfl ?_
    repeat (first | refine g_endt ?_ | refine g_end ?_ | refine g_then ?_ | refine g_in_normal ?_ | refine g_then_ret ?_ | refine g_in_ret ?_ | refine g_then_exit ?_ | refine g_in_exit rfl ?_ | refine g_in_exit_ne (by decide) ?_ | refine g_seq ?_ | refine g_region ?_ | refine g_block ?_ | refine g_ret ?_ | refine g_return_n ?_ | refine g_exit ?_ | refine g_skip ?_)
    refine g_hideR fun Q_ hQ_ => ?_
    refine o_load1 (v := .pointer (some ⟨w, 0, none⟩)) rfl rfl ?_
    refine o_loadN (v := e.val) rfl rfl rfl ?_
    refine o_call (PutCES_spec w (sortE (l.take k)) e hss (by omega)) rfl rfl ?_
    rintro _ _ ⟨rfl, rfl⟩
    refine g_end (G.imp (hQ_ .normal _) ?_)
    clear hQ_ Q_
    try refine g_then ?_
    rw [← hsn]
    obtain ⟨zs, hzs⟩ : ∃ zs, sortE (l.take (k + 1)) = zs := ⟨_, rfl⟩
    rw [hzs] at hmo ⊢
    repeat (first | refine g_endt ?_ | refine g_end ?_ | refine g_then ?_ | refine g_in_normal ?_ | refine g_then_ret ?_ | refine g_in_ret ?_ | refine g_then_exit ?_ | refine g_in_exit rfl ?_ | refine g_in_exit_ne (by decide) ?_ | refine g_seq ?_ | refine g_region ?_ | refine g_block ?_ | refine g_ret ?_ | refine g_return_n ?_ | refine g_exit ?_ | refine g_skip ?_)
    refine g_hide fun Q_ hQ_ => ?_
    refine g_draw [1] [0,2,3,4,5,1,6] [cW1 c7 w, cP1 q s, stC s room next a] mixed rfl ?_
    refine ob_q rfl rfl ⟨_, fun X Q h => o_load1 (v := .pointer (some ⟨w, 0, none⟩)) rfl rfl (g_end (h _ _ ⟨rfl, rfl⟩)), ?_⟩
    refine ob_q rfl rfl ⟨_, fun X Q h => o_load1 (v := .pointer (some ⟨s, 0, none⟩)) rfl rfl (g_end (h _ _ ⟨rfl, rfl⟩)), ?_⟩
    refine ob_q rfl rfl ⟨_, fun X Q h => o_nil rfl (g_end (h _ _ ⟨rfl, rfl⟩)), ?_⟩
    first | refine ob_q rfl rfl ⟨_, fun X Q h => o_field rfl (g_end (h _ _ ⟨rfl, rfl⟩)), ?_⟩ | refine ob_q rfl rfl ⟨_, fun X Q h => o_fieldR rfl (by omega) (g_end (h _ _ ⟨rfl, rfl⟩)), ?_⟩
    refine ob_q rfl rfl ⟨_, fun X Q h => o_load1 (v := .int .i64 room) rfl rfl (g_end (h _ _ ⟨rfl, rfl⟩)), ?_⟩
    refine ob_l rfl rfl fun Qz hz => o_call (LenES_spec w zs) rfl rfl ?_
    rintro _ _ ⟨rfl, rfl⟩
    refine g_end (hz _ _ ⟨_, ob_fin, ?_⟩)
    clear hz Qz
    refine ob_q rfl rfl ⟨_, fun X Q h => o_gtr rfl rfl (g_end (h _ _ ⟨rfl, rfl⟩)), ?_⟩
    refine ob_nil ?_
    refine G.imp (hQ_ .normal _) ?_
    clear hQ_ Q_
    try refine g_then ?_
    by_cases hov : room < (zs.length : Int)
    · first | refine g_seq (g_cond_t rfl (by simpa using hov) ?_) | refine g_cond_t rfl (by simpa using hov) ?_
      rw [setD_full hall (by omega)]
      repeat (first | refine g_endt ?_ | refine g_end ?_ | refine g_then ?_ | refine g_in_normal ?_ | refine g_then_ret ?_ | refine g_in_ret ?_ | refine g_then_exit ?_ | refine g_in_exit rfl ?_ | refine g_in_exit_ne (by decide) ?_ | refine g_seq ?_ | refine g_region ?_ | refine g_block ?_ | refine g_ret ?_ | refine g_return_n ?_ | refine g_exit ?_ | refine g_skip ?_)
      refine g_hideR fun Q_ hQ_ => ?_
      refine o_store (v := .slice none 0 0) rfl rfl rfl rfl rfl ?_
      refine o_store (v := .slice none 0 0) rfl rfl rfl rfl rfl ?_
      refine o_assign ?_
      refine g_end (G.imp (hQ_ .normal _) ?_)
      clear hQ_ Q_
      try refine g_then ?_
      refine G.norm c4 #[.slice none 0 0] rfl ?_
      refine G.norm c5 #[.slice none 0 0] rfl ?_
      refine shutSt s room next ts a ys hst ?_
      refine G.nil_slice 25 encE 12 ?_
      refine G.nil_slice 25 encE 12 ?_
      repeat (first | refine g_endt ?_ | refine g_end ?_ | refine g_then ?_ | refine g_in_normal ?_ | refine g_then_ret ?_ | refine g_in_ret ?_ | refine g_then_exit ?_ | refine g_in_exit rfl ?_ | refine g_in_exit_ne (by decide) ?_ | refine g_seq ?_ | refine g_region ?_ | refine g_block ?_ | refine g_ret ?_ | refine g_return_n ?_ | refine g_exit ?_ | refine g_skip ?_)
      exact ret3 (K := [StP s room next ts, oE none 0 [], oE none 0 [], psl encE 12 A l]) rfl (resC1 rfl rfl) (resC1 rfl rfl) (resT rfl) ⟨none, 0, none, 0, rfl, rfl⟩
    · first | refine g_seq (g_cond_f rfl (by simpa using hov) ?_) | refine g_cond_f rfl (by simpa using hov) ?_
      repeat (first | refine g_endt ?_ | refine g_end ?_ | refine g_then ?_ | refine g_in_normal ?_ | refine g_then_ret ?_ | refine g_in_ret ?_ | refine g_then_exit ?_ | refine g_in_exit rfl ?_ | refine g_in_exit_ne (by decide) ?_ | refine g_seq ?_ | refine g_region ?_ | refine g_block ?_ | refine g_ret ?_ | refine g_return_n ?_ | refine g_exit ?_ | refine g_skip ?_)
      repeat (first | refine g_endt ?_ | refine g_end ?_ | refine g_then ?_ | refine g_in_normal ?_ | refine g_then_ret ?_ | refine g_in_ret ?_ | refine g_then_exit ?_ | refine g_in_exit rfl ?_ | refine g_in_exit_ne (by decide) ?_ | refine g_seq ?_ | refine g_region ?_ | refine g_block ?_ | refine g_ret ?_ | refine g_return_n ?_ | refine g_exit ?_ | refine g_skip ?_)
      refine g_hideR fun Q_ hQ_ => ?_
      refine o_add (c := ((k + 1 : Nat) : Int)) rfl rfl (by omega) (by omega) (by omega) ?_
      refine o_move ?_
      refine g_end (G.imp (hQ_ .normal _) ?_)
      clear hQ_ Q_
      try refine g_then ?_
      repeat (first | refine g_endt ?_ | refine g_end ?_ | refine g_then ?_ | refine g_in_normal ?_ | refine g_then_ret ?_ | refine g_in_ret ?_ | refine g_then_exit ?_ | refine g_in_exit rfl ?_ | refine g_in_exit_ne (by decide) ?_ | refine g_seq ?_ | refine g_region ?_ | refine g_block ?_ | refine g_ret ?_ | refine g_return_n ?_ | refine g_exit ?_ | refine g_skip ?_)
      subst hzs
      exact g_meets ⟨k + 1, hkn, by omega⟩ (by show n - (k + 1) < n - k; omega) (Sat.mem ⟨rfl, rfl, rfl, rfl, rfl, rfl, rfl, rfl, rfl, trivial⟩)
  repeat (first | refine g_endt ?_ | refine g_end ?_ | refine g_then ?_ | refine g_in_normal ?_ | refine g_then_ret ?_ | refine g_in_ret ?_ | refine g_then_exit ?_ | refine g_in_exit rfl ?_ | refine g_in_exit_ne (by decide) ?_ | refine g_seq ?_ | refine g_region ?_ | refine g_block ?_ | refine g_ret ?_ | refine g_return_n ?_ | refine g_exit ?_ | refine g_skip ?_)
  first | refine g_seq (g_cond_f rfl (by simp; omega) ?_) | refine g_cond_f rfl (by simp; omega) ?_
  rw [show l.take k = l from List.take_of_length_le (by omega)] at hroom ⊢
  have hws := sortE_srt' l
  have hwl := sortE_len' l
  rw [setD_ok hall (by omega)]
  generalize sortE l = want at hws hwl ⊢
  -- what goes
  repeat (first | refine g_endt ?_ | refine g_end ?_ | refine g_then ?_ | refine g_in_normal ?_ | refine g_then_ret ?_ | refine g_in_ret ?_ | refine g_then_exit ?_ | refine g_in_exit rfl ?_ | refine g_in_exit_ne (by decide) ?_ | refine g_seq ?_ | refine g_region ?_ | refine g_block ?_ | refine g_ret ?_ | refine g_return_n ?_ | refine g_exit ?_ | refine g_skip ?_)
  refine g_hideR fun Q_ hQ_ => ?_
  refine o_load1 (v := .pointer (some ⟨s, 0, none⟩)) rfl rfl ?_
  refine o_nil rfl ?_
  first | refine o_field rfl ?_ | refine o_fieldR rfl (by omega) ?_
  refine o_load1 (v := .pointer (some ⟨a.pt, 0, none⟩)) rfl rfl ?_
  refine o_call (AllMTE_spec a.pt) rfl rfl ?_
  rintro _ _ ⟨b, rfl, rfl⟩
  refine g_end (G.imp (hQ_ .normal _) ?_)
  clear hQ_ Q_
  try refine g_then ?_
  refine newGE c5 ?_
  repeat (first | refine g_endt ?_ | refine g_end ?_ | refine g_then ?_ | refine g_in_normal ?_ | refine g_then_ret ?_ | refine g_in_ret ?_ | refine g_then_exit ?_ | refine g_in_exit rfl ?_ | refine g_in_exit_ne (by decide) ?_ | refine g_seq ?_ | refine g_region ?_ | refine g_block ?_ | refine g_ret ?_ | refine g_return_n ?_ | refine g_exit ?_ | refine g_skip ?_)
  refine g_range (ps := [54, 55]) (lb := [.pointer (some ⟨b, 0, none⟩)]) (enc := PgTE.enc2) (xs := ts.map tgE) rfl
    (fun pre => GrowE c5 (goneD want (pre.map PgTE.v)) :: MapATE a.pt (ts.map tgE) :: pT b a.pt :: SetAES w want :: cW1 c7 w :: cL1 c4 none 0 0 :: cP1 q s :: psl encE 12 A l :: stC s room next a :: [SetAES a.pa ys, IdxP a.pi ElemD.id ys, IdxP a.pr ElemD.attr ys]) (fun _ _ => [pu False])
    (fun K => AllM1TE_iter a.pt b (ts.map tgE) (by simp; omega) _) (fun _ => rfl) (tk := (inferInstance : Take _ (GrowE c5 [] :: MapATE a.pt (ts.map tgE) :: pT b a.pt :: SetAES w want :: cW1 c7 w :: cL1 c4 none 0 0 :: cP1 q s :: psl encE 12 A l :: stC s room next a :: [SetAES a.pa ys, IdxP a.pi ElemD.id ys, IdxP a.pr ElemD.attr ys]) _)) ?_ ?_ ?_
  · intro w0 F ll rr pre x hp
    have hlen : pre.length < ts.length := by
      obtain ⟨t, ht⟩ := hp
      have := congrArg List.length ht
      simp at this
      omega
    obtain ⟨o, ho, rfl⟩ := List.mem_map.1 (hp.subset (by simp : x ∈ pre ++ [x]))
    have hgl : (goneD want (pre.map PgTE.v)).length ≤ (pre.map PgTE.v).length := List.length_filter_le _ _
    rw [List.length_map] at hgl
    have hsn := gone_snoc want (pre.map PgTE.v) o
    have hmp : (pre ++ [tgE o]).map PgTE.v = pre.map PgTE.v ++ [o] := by rw [List.map_append]; rfl
    rw [← hmp] at hsn
    generalize goneD want (pre.map PgTE.v) = gs at hgl hsn ⊢
    repeat (first | refine g_endt ?_ | refine g_end ?_ | refine g_then ?_ | refine g_in_normal ?_ | refine g_then_ret ?_ | refine g_in_ret ?_ | refine g_then_exit ?_ | refine g_in_exit rfl ?_ | refine g_in_exit_ne (by decide) ?_ | refine g_seq ?_ | refine g_region ?_ | refine g_block ?_ | refine g_ret ?_ | refine g_return_n ?_ | refine g_exit ?_ | refine g_skip ?_)
    refine g_hideR fun Q_ hQ_ => ?_
    refine o_alloc fun c13 => ?_
    refine o_store (v := o.val) rfl rfl rfl rfl rfl ?_
    refine g_end (G.imp (hQ_ .normal _) ?_)
    clear hQ_ Q_
    try refine g_then ?_
    refine G.norm c13 o.val.cells rfl ?_
    repeat (first | refine g_endt ?_ | refine g_end ?_ | refine g_then ?_ | refine g_in_normal ?_ | refine g_then_ret ?_ | refine g_in_ret ?_ | refine g_then_exit ?_ | refine g_in_exit rfl ?_ | refine g_in_exit_ne (by decide) ?_ | refine g_seq ?_ | refine g_region ?_ | refine g_block ?_ | refine g_ret ?_ | refine g_return_n ?_ | refine g_exit ?_ | refine g_skip ?_)
    refine g_begin ?_
    obtain ⟨r, hg⟩ : ∃ r, getM ElemD.cmp want o = r := ⟨_, rfl⟩
    repeat (first | refine g_endt ?_ | refine g_end ?_ | refine g_then ?_ | refine g_in_normal ?_ | refine g_then_ret ?_ | refine g_in_ret ?_ | refine g_then_exit ?_ | refine g_in_exit rfl ?_ | refine g_in_exit_ne (by decide) ?_ | refine g_seq ?_ | refine g_region ?_ | refine g_block ?_ | refine g_ret ?_ | refine g_return_n ?_ | refine g_exit ?_ | refine g_skip ?_)
    refine g_hideR fun Q_ hQ_ => ?_
    refine o_load1 (v := .pointer (some ⟨w, 0, none⟩)) rfl rfl ?_
    refine o_loadN (v := o.val) rfl rfl rfl ?_
    refine o_call (GetKES_spec w want o hws (by omega) hg) rfl rfl ?_
    rintro _ _ ⟨rfl, rfl⟩
    refine o_move ?_
    refine o_extract rfl rfl ?_
    refine o_extract rfl rfl ?_
    refine o_alloc fun c14 => ?_
    refine o_store (v := (r.getD ElemD.zero).val) rfl rfl rfl rfl rfl ?_
    refine o_assign ?_
    refine g_end (G.imp (hQ_ .normal _) ?_)
    clear hQ_ Q_
    try refine g_then ?_
    refine G.norm c14 (r.getD ElemD.zero).val.cells rfl ?_
    repeat (first | refine g_endt ?_ | refine g_end ?_ | refine g_then ?_ | refine g_in_normal ?_ | refine g_then_ret ?_ | refine g_in_ret ?_ | refine g_then_exit ?_ | refine g_in_exit rfl ?_ | refine g_in_exit_ne (by decide) ?_ | refine g_seq ?_ | refine g_block ?_ | refine g_ret ?_ | refine g_return_n ?_ | refine g_exit ?_ | refine g_skip ?_)
    refine g_cutk (σ := Unit) (ds' := []) (S := fun _ => [(2, .pointer (some ⟨q, 0, none⟩)), (5, .pointer (some ⟨c5, 0, none⟩)), (13, .pointer (some ⟨c13, 0, none⟩)), (70, .bool (!staysD want o))]) (H := fun _ => cellsB c13 o.val.cells 25 :: GrowE c5 gs :: MapATE a.pt (ts.map tgE) :: pT b a.pt :: SetAES w want :: cW1 c7 w :: cL1 c4 none 0 0 :: cP1 q s :: psl encE 12 A l :: stC s room next a :: [SetAES a.pa ys, IdxP a.pi ElemD.id ys, IdxP a.pr ElemD.attr ys]) (ok := fun _ => True) ?_ ?_
    · cases r with
      | none =>
        rw [show staysD want o = false by unfold staysD; rw [hg]; rfl]
        repeat (first | refine g_endt ?_ | refine g_end ?_ | refine g_then ?_ | refine g_in_normal ?_ | refine g_then_ret ?_ | refine g_in_ret ?_ | refine g_then_exit ?_ | refine g_in_exit rfl ?_ | refine g_in_exit_ne (by decide) ?_ | refine g_seq ?_ | refine g_region ?_ | refine g_block ?_ | refine g_ret ?_ | refine g_return_n ?_ | refine g_exit ?_ | refine g_skip ?_)
        refine g_hideR fun Q_ hQ_ => ?_
        refine o_move ?_
        refine o_not rfl ?_
        refine o_move ?_
        first | (refine o_want rfl rfl rfl rfl rfl ?_; (first | refine o_field rfl ?_ | refine o_fieldR rfl (by omega) ?_)) | refine o_unwanted rfl rfl rfl rfl rfl ?_ | refine o_undef rfl rfl rfl ?_
        first | (refine o_want rfl rfl rfl rfl rfl ?_; (first | refine o_load1 rfl rfl ?_ | refine o_loadE0 rfl (by assumption) rfl ?_ | refine o_loadE1 rfl (by assumption) rfl ?_)) | refine o_unwanted rfl rfl rfl rfl rfl ?_ | refine o_undef rfl rfl rfl ?_
        first | (refine o_want rfl rfl rfl rfl rfl ?_; (first | refine o_field rfl ?_ | refine o_fieldR rfl (by omega) ?_)) | refine o_unwanted rfl rfl rfl rfl rfl ?_ | refine o_undef rfl rfl rfl ?_
        first | (refine o_want rfl rfl rfl rfl rfl ?_; (first | refine o_load1 rfl rfl ?_ | refine o_loadE0 rfl (by assumption) rfl ?_ | refine o_loadE1 rfl (by assumption) rfl ?_)) | refine o_unwanted rfl rfl rfl rfl rfl ?_ | refine o_undef rfl rfl rfl ?_
        first | refine o_unwanted rfl rfl rfl rfl rfl ?_ | refine o_undef rfl rfl rfl ?_
        first | refine o_pick_t rfl rfl ?_ | refine o_pick_f rfl rfl ?_
        refine g_end (G.imp (hQ_ .normal _) ?_)
        clear hQ_ Q_
        try refine g_then ?_
        exact g_meets () trivial (Sat.mem ⟨rfl, rfl, rfl, rfl, trivial⟩)
      | some x =>
        rw [show staysD want o = (x.goal == o.goal) by unfold staysD; rw [hg]; rfl]
        refine G.norm c14 x.val.cells rfl ?_
        repeat (first | refine g_endt ?_ | refine g_end ?_ | refine g_then ?_ | refine g_in_normal ?_ | refine g_then_ret ?_ | refine g_in_ret ?_ | refine g_then_exit ?_ | refine g_in_exit rfl ?_ | refine g_in_exit_ne (by decide) ?_ | refine g_seq ?_ | refine g_region ?_ | refine g_block ?_ | refine g_ret ?_ | refine g_return_n ?_ | refine g_exit ?_ | refine g_skip ?_)
        refine g_hideR fun Q_ hQ_ => ?_
        refine o_move ?_
        refine o_not rfl ?_
        refine o_move ?_
        first | (refine o_want rfl rfl rfl rfl rfl ?_; (first | refine o_field rfl ?_ | refine o_fieldR rfl (by omega) ?_)) | refine o_unwanted rfl rfl rfl rfl rfl ?_ | refine o_undef rfl rfl rfl ?_
        refine o_want rfl rfl rfl rfl rfl (o_load1 (v := .bool x.goal) rfl rfl ?_)
        first | (refine o_want rfl rfl rfl rfl rfl ?_; (first | refine o_field rfl ?_ | refine o_fieldR rfl (by omega) ?_)) | refine o_unwanted rfl rfl rfl rfl rfl ?_ | refine o_undef rfl rfl rfl ?_
        refine o_want rfl rfl rfl rfl rfl (o_load1 (v := .bool o.goal) rfl rfl ?_)
        refine o_want rfl rfl rfl rfl rfl (o_neqty rfl rfl (eq_bool x.goal o.goal) ?_)
        first | refine o_pick_t rfl rfl ?_ | refine o_pick_f rfl rfl ?_
        refine g_end (G.imp (hQ_ .normal _) ?_)
        clear hQ_ Q_
        try refine g_then ?_
        exact g_meets () trivial (Sat.mem ⟨rfl, rfl, rfl, rfl, trivial⟩)
    intro _ ρ3 _
    cases hb : staysD want o with
    | true =>
      rw [hb, if_pos rfl, List.append_nil] at hsn
      rw [← hsn]
      first | refine g_seq (g_cond_f rfl (by first | rfl | (simp; done) | (simp; omega) | (simp; assumption)) ?_) | refine g_cond_f rfl (by first | rfl | (simp; done) | (simp; omega) | (simp; assumption)) ?_
      repeat (first | refine g_endt ?_ | refine g_end ?_ | refine g_then ?_ | refine g_in_normal ?_ | refine g_then_ret ?_ | refine g_in_ret ?_ | refine g_then_exit ?_ | refine g_in_exit rfl ?_ | refine g_in_exit_ne (by decide) ?_ | refine g_seq ?_ | refine g_region ?_ | refine g_block ?_ | refine g_ret ?_ | refine g_return_n ?_ | refine g_exit ?_ | refine g_skip ?_)
      exact g_next
    | false =>
      rw [hb, if_neg (by decide)] at hsn
      first | refine g_seq (g_cond_t rfl (by first | rfl | (simp; done) | (simp; omega) | (simp; assumption)) ?_) | refine g_cond_t rfl (by first | rfl | (simp; done) | (simp; omega) | (simp; assumption)) ?_
      refine openGE c5 gs fun S e => ?_
      repeat (first | refine g_endt ?_ | refine g_end ?_ | refine g_then ?_ | refine g_in_normal ?_ | refine g_then_ret ?_ | refine g_in_ret ?_ | refine g_then_exit ?_ | refine g_in_exit rfl ?_ | refine g_in_exit_ne (by decide) ?_ | refine g_seq ?_ | refine g_region ?_ | refine g_block ?_ | refine g_ret ?_ | refine g_return_n ?_ | refine g_exit ?_ | refine g_skip ?_)
      refine g_hideR fun Q_ hQ_ => ?_
      refine o_load1 (v := .slice S gs.length e) rfl rfl ?_
      refine o_loadN (v := o.val) rfl rfl rfl ?_
      refine o_litP (e := 25) encE [o] (o).val.cells (fun w => by kernel_rfl) (by simp [encE]) (by simp [maxLen]) fun _ => ?_
      refine o_append (xs := gs) (ys := [o]) (by first | rfl | (simp only [List.length_map, List.length_take, List.length_append]; first | rfl | (congr 1; omega))) rfl rfl rfl rfl (fun _ => .inr trivial) (by simp [maxLen]; omega) (by simp; omega) fun S2 e2 => ?_
      refine o_store (v := .slice S2 (gs.length + 1) e2) rfl rfl rfl rfl rfl ?_
      refine g_end (G.imp (hQ_ .normal _) ?_)
      clear hQ_ Q_
      try refine g_then ?_
      refine G.norm c5 #[.slice S2 (gs.length + 1) e2] rfl ?_
      refine shutGE c5 (gs ++ [o]) S2 e2 (n := gs.length + 1) (by simp) ?_
      rw [← hsn]
      repeat (first | refine g_endt ?_ | refine g_end ?_ | refine g_then ?_ | refine g_in_normal ?_ | refine g_then_ret ?_ | refine g_in_ret ?_ | refine g_then_exit ?_ | refine g_in_exit rfl ?_ | refine g_in_exit_ne (by decide) ?_ | refine g_seq ?_ | refine g_region ?_ | refine g_block ?_ | refine g_ret ?_ | refine g_return_n ?_ | refine g_exit ?_ | refine g_skip ?_)
      exact g_next
  · intro D
    rw [show (ts.map tgE).map PgTE.v = ts by rw [List.map_map]; exact List.map_id ts]
    have hgl : (goneD want ts).length ≤ ts.length := List.length_filter_le _ _
    obtain ⟨gs, hgs⟩ : ∃ gs, goneD want ts = gs := ⟨_, rfl⟩
    have hrem : rem ts gs = stayD want ts := by rw [← hgs]; exact rem_gone hst.tags
    rw [hgs] at hgl ⊢
    refine openGE c5 gs fun S e => ?_
    repeat (first | refine g_endt ?_ | refine g_end ?_ | refine g_then ?_ | refine g_in_normal ?_ | refine g_then_ret ?_ | refine g_in_ret ?_ | refine g_then_exit ?_ | refine g_in_exit rfl ?_ | refine g_in_exit_ne (by decide) ?_ | refine g_seq ?_ | refine g_region ?_ | refine g_block ?_ | refine g_ret ?_ | refine g_return_n ?_ | refine g_exit ?_ | refine g_skip ?_)
    refine g_hideR fun Q_ hQ_ => ?_
    refine o_load1 (v := .slice S gs.length e) rfl rfl ?_
    refine o_len rfl rfl ?_
    refine o_move ?_
    refine g_end (G.imp (hQ_ .normal _) ?_)
    clear hQ_ Q_
    try refine g_then ?_
    repeat (first | refine g_endt ?_ | refine g_end ?_ | refine g_then ?_ | refine g_in_normal ?_ | refine g_then_ret ?_ | refine g_in_ret ?_ | refine g_then_exit ?_ | refine g_in_exit rfl ?_ | refine g_in_exit_ne (by decide) ?_ | refine g_seq ?_ | refine g_region ?_ | refine g_block ?_ | refine g_ret ?_ | refine g_return_n ?_ | refine g_exit ?_ | refine g_skip ?_)
    refine g_loop (σ := {t : Nat × List ElemD × List ElemD // t.1 ≤ gs.length ∧ t.2.1 = rem ts (gs.take t.1) ∧ StI next t.2.1 t.2.2}) (S := fun t => [(2, .pointer (some ⟨q, 0, none⟩)), (4, .pointer (some ⟨c4, 0, none⟩)), (5, .pointer (some ⟨c5, 0, none⟩)), (6, .int .i64 0), (7, .pointer (some ⟨c7, 0, none⟩)), (75, .slice S gs.length e), (76, .int .i64 (gs.length : Int)), (77, .int .i64 (t.1.1 : Int))])
      (H := fun t => cL1 c5 S gs.length e :: oE S e gs :: SetAES w want :: cW1 c7 w :: cL1 c4 none 0 0 :: cP1 q s :: psl encE 12 A l :: stC s room next a :: stK a t.1.2.1 t.1.2.2) (μ := fun t => gs.length - t.1.1) (s0 := ⟨(0, ts, ys), Nat.zero_le _, by rw [List.take_zero, rem_nil], hst⟩) (Sat.mem ⟨rfl, rfl, rfl, rfl, rfl, rfl, rfl, rfl, trivial⟩)
      (t := (inferInstance : Take _ (cL1 c5 S gs.length e :: oE S e gs :: SetAES w want :: cW1 c7 w :: cL1 c4 none 0 0 :: cP1 q s :: psl encE 12 A l :: stC s room next a :: stK a ts ys) _)) ?_
    rintro ⟨⟨i, rs, ys2⟩, hi, hrs, hst2⟩ ρ3
    dsimp only at hi hrs hst2 ⊢
    have hrl : rs.length ≤ ts.length := by rw [hrs]; exact List.length_filter_le _ _
    have hyl2 := hst2.len
    repeat (first | refine g_endt ?_ | refine g_end ?_ | refine g_then ?_ | refine g_in_normal ?_ | refine g_then_ret ?_ | refine g_in_ret ?_ | refine g_then_exit ?_ | refine g_in_exit rfl ?_ | refine g_in_exit_ne (by decide) ?_ | refine g_seq ?_ | refine g_region ?_ | refine g_block ?_ | refine g_ret ?_ | refine g_return_n ?_ | refine g_exit ?_ | refine g_skip ?_)
    refine g_hideR fun Q_ hQ_ => ?_
    refine o_lss rfl rfl ?_
    refine g_end (G.imp (hQ_ .normal _) ?_)
    clear hQ_ Q_
    try refine g_then ?_
    by_cases hig : i < gs.length
    · skip
      repeat (first | refine g_endt ?_ | refine g_end ?_ | refine g_then ?_ | refine g_in_normal ?_ | refine g_then_ret ?_ | refine g_in_ret ?_ | refine g_then_exit ?_ | refine g_in_exit rfl ?_ | refine g_in_exit_ne (by decide) ?_ | refine g_seq ?_ | refine g_region ?_ | refine g_block ?_ | refine g_ret ?_ | refine g_return_n ?_ | refine g_exit ?_ | refine g_skip ?_)
      first | refine g_seq (g_cond_t rfl (by first | rfl | (simp; done) | (simp; omega) | (simp; assumption)) ?_) | refine g_cond_t rfl (by first | rfl | (simp; done) | (simp; omega) | (simp; assumption)) ?_
      obtain ⟨g, hg⟩ : ∃ g, gs[i]? = some g := ⟨_, List.getElem?_eq_getElem hig⟩
      have hgm : g ∈ rs := by rw [hrs, ← hgs]; rw [← hgs] at hg; exact mem_rem hst.tags hg
      have hnx : noTag rs g.tag = rem ts (gs.take (i + 1)) := by rw [hrs, List.take_add_one, hg]; exact (rem_snoc ts _ g).symm
      have hst3 := hst2.drop hgm
      repeat (first | refine g_endt ?_ | refine g_end ?_ | refine g_then ?_ | refine g_in_normal ?_ | refine g_then_ret ?_ | refine g_in_ret ?_ | refine g_then_exit ?_ | refine g_in_exit rfl ?_ | refine g_in_exit_ne (by decide) ?_ | refine g_seq ?_ | refine g_region ?_ | refine g_block ?_ | refine g_ret ?_ | refine g_return_n ?_ | refine g_exit ?_ | refine g_skip ?_)
      refine g_hideR fun Q_ hQ_ => ?_
      refine o_indexR (ys := gs) (i := i) rfl rfl rfl hig rfl rfl ?_
      refine o_loadE (ys := gs) rfl rfl hg ?_
      refine o_alloc fun c17 => ?_
      refine o_store (v := g.val) rfl rfl rfl rfl rfl ?_
      refine g_end (G.imp (hQ_ .normal _) ?_)
      clear hQ_ Q_
      try refine g_then ?_
      refine G.norm c17 g.val.cells rfl ?_
      repeat (first | refine g_endt ?_ | refine g_end ?_ | refine g_then ?_ | refine g_in_normal ?_ | refine g_then_ret ?_ | refine g_in_ret ?_ | refine g_then_exit ?_ | refine g_in_exit rfl ?_ | refine g_in_exit_ne (by decide) ?_ | refine g_seq ?_ | refine g_region ?_ | refine g_block ?_ | refine g_ret ?_ | refine g_return_n ?_ | refine g_exit ?_ | refine g_skip ?_)
      refine g_hideR fun Q_ hQ_ => ?_
      refine o_load1 (v := .pointer (some ⟨s, 0, none⟩)) rfl rfl ?_
      refine o_loadN (v := g.val) rfl rfl rfl ?_
      refine o_call (drop10_spec s room next a rs ys2 g hst2.srt hst2.tags (by omega) (by omega) (hst2.perm.mem_iff.2 hgm)) rfl rfl ?_
      rintro _ _ rfl
      refine g_end (G.imp (hQ_ .normal _) ?_)
      clear hQ_ Q_
      try refine g_then ?_
      repeat (first | refine g_endt ?_ | refine g_end ?_ | refine g_then ?_ | refine g_in_normal ?_ | refine g_then_ret ?_ | refine g_in_ret ?_ | refine g_then_exit ?_ | refine g_in_exit rfl ?_ | refine g_in_exit_ne (by decide) ?_ | refine g_seq ?_ | refine g_region ?_ | refine g_block ?_ | refine g_ret ?_ | refine g_return_n ?_ | refine g_exit ?_ | refine g_skip ?_)
      repeat (first | refine g_endt ?_ | refine g_end ?_ | refine g_then ?_ | refine g_in_normal ?_ | refine g_then_ret ?_ | refine g_in_ret ?_ | refine g_then_exit ?_ | refine g_in_exit rfl ?_ | refine g_in_exit_ne (by decide) ?_ | refine g_seq ?_ | refine g_region ?_ | refine g_block ?_ | refine g_ret ?_ | refine g_return_n ?_ | refine g_exit ?_ | refine g_skip ?_)
      refine g_hideR fun Q_ hQ_ => ?_
      refine o_add (c := ((i + 1 : Nat) : Int)) rfl rfl (by omega) (by omega) (by omega) ?_
      refine o_move ?_
      refine g_end (G.imp (hQ_ .normal _) ?_)
      clear hQ_ Q_
      try refine g_then ?_
      repeat (first | refine g_endt ?_ | refine g_end ?_ | refine g_then ?_ | refine g_in_normal ?_ | refine g_then_ret ?_ | refine g_in_ret ?_ | refine g_then_exit ?_ | refine g_in_exit rfl ?_ | refine g_in_exit_ne (by decide) ?_ | refine g_seq ?_ | refine g_region ?_ | refine g_block ?_ | refine g_ret ?_ | refine g_return_n ?_ | refine g_exit ?_ | refine g_skip ?_)
      exact g_meets ⟨(i + 1, noTag rs g.tag, delC ElemD.cmp ys2 g), hig, hnx, hst3⟩ (by show gs.length - (i + 1) < gs.length - i; omega) (Sat.mem ⟨rfl, rfl, rfl, rfl, rfl, rfl, rfl, rfl, trivial⟩)
    repeat (first | refine g_endt ?_ | refine g_end ?_ | refine g_then ?_ | refine g_in_normal ?_ | refine g_then_ret ?_ | refine g_in_ret ?_ | refine g_then_exit ?_ | refine g_in_exit rfl ?_ | refine g_in_exit_ne (by decide) ?_ | refine g_seq ?_ | refine g_region ?_ | refine g_block ?_ | refine g_ret ?_ | refine g_return_n ?_ | refine g_exit ?_ | refine g_skip ?_)
    first | refine g_seq (g_cond_f rfl (by simp; omega) ?_) | refine g_cond_f rfl (by simp; omega) ?_
    rw [show gs.take i = gs from List.take_of_length_le (by omega), hrem] at hrs
    subst hrs
    -- what comes
    repeat (first | refine g_endt ?_ | refine g_end ?_ | refine g_then ?_ | refine g_in_normal ?_ | refine g_then_ret ?_ | refine g_in_ret ?_ | refine g_then_exit ?_ | refine g_in_exit rfl ?_ | refine g_in_exit_ne (by decide) ?_ | refine g_seq ?_ | refine g_region ?_ | refine g_block ?_ | refine g_ret ?_ | refine g_return_n ?_ | refine g_exit ?_ | refine g_skip ?_)
    refine g_hideR fun Q_ hQ_ => ?_
    refine o_load1 (v := .pointer (some ⟨w, 0, none⟩)) rfl rfl ?_
    refine o_call (AllES_spec w) rfl rfl ?_
    rintro _ _ ⟨b2, rfl, rfl⟩
    refine g_end (G.imp (hQ_ .normal _) ?_)
    clear hQ_ Q_
    try refine g_then ?_
    refine newGE c4 ?_
    refine shutSt s room next (stayD want ts) a ys2 hst2 ?_
    repeat (first | refine g_endt ?_ | refine g_end ?_ | refine g_then ?_ | refine g_in_normal ?_ | refine g_then_ret ?_ | refine g_in_ret ?_ | refine g_then_exit ?_ | refine g_in_exit rfl ?_ | refine g_in_exit_ne (by decide) ?_ | refine g_seq ?_ | refine g_region ?_ | refine g_block ?_ | refine g_ret ?_ | refine g_return_n ?_ | refine g_exit ?_ | refine g_skip ?_)
    refine g_range (ps := [87]) (lb := [.pointer (some ⟨b2, 0, none⟩)]) (enc := ElemD.enc') (xs := want) rfl
      (fun pre => GrowE c4 (tagD next (freshD pre ts)) :: StP s room (nxD next (freshD pre ts).length) (tsD (stayD want ts) (tagD next (freshD pre ts))) :: SetAES w want :: pE b2 w :: cL1 c5 S gs.length e :: oE S e gs :: cP1 q s :: psl encE 12 A l :: []) (fun _ _ => [pu False])
      (fun K => All1ES_iter w b2 want (by omega) _) (fun _ => rfl) (tk := (inferInstance : Take _ (GrowE c4 [] :: StP s room next (stayD want ts) :: SetAES w want :: pE b2 w :: cL1 c5 S gs.length e :: oE S e gs :: cP1 q s :: psl encE 12 A l :: []) _)) ?_ ?_ ?_
    · intro w0 F ll rr pre x hp
      rw [nxD_eq, tsD_eq]
      have hlen : pre.length < want.length := by
        obtain ⟨t, ht⟩ := hp
        have := congrArg List.length ht
        simp at this
        omega
      have hfl : (freshD pre ts).length ≤ pre.length := List.length_filter_le _ _
      have hsl : (stayD want ts).length ≤ ts.length := List.length_filter_le _ _
      have htl := tagD_len next (freshD pre ts)
      have hfs := fresh_snoc pre ts x
      have hts2 := tagD_snoc next (freshD pre ts) x
      have hnh := fun n => new_has (n := n) hws hst hp
      obtain ⟨nk, hnk⟩ : ∃ nk : Int, next + ((freshD pre ts).length : Int) = nk := ⟨_, rfl⟩
      rw [hnk] at hts2 ⊢
      obtain ⟨ad, had⟩ : ∃ ad, tagD next (freshD pre ts) = ad := ⟨_, rfl⟩
      have hnh1 := hnh next
      rw [had] at htl hts2 hnh1 ⊢
      refine openSt s room nk (stayD want ts ++ ad) fun a3 ys3 hst3 => ?_
      have hh : hasC ElemD.cmp ys3 x = staysD ts x := by rw [hst3.has, hnh1]
      have hyl3 := hst3.len
      rw [List.length_append] at hyl3
      repeat (first | refine g_endt ?_ | refine g_end ?_ | refine g_then ?_ | refine g_in_normal ?_ | refine g_then_ret ?_ | refine g_in_ret ?_ | refine g_then_exit ?_ | refine g_in_exit rfl ?_ | refine g_in_exit_ne (by decide) ?_ | refine g_seq ?_ | refine g_region ?_ | refine g_block ?_ | refine g_ret ?_ | refine g_return_n ?_ | refine g_exit ?_ | refine g_skip ?_)
      refine g_hideR fun Q_ hQ_ => ?_
      refine o_alloc fun c18 => ?_
      refine o_store (v := x.val) rfl rfl rfl rfl rfl ?_
      refine g_end (G.imp (hQ_ .normal _) ?_)
      clear hQ_ Q_
      try refine g_then ?_
      refine G.norm c18 x.val.cells rfl ?_
      repeat (first | refine g_endt ?_ | refine g_end ?_ | refine g_then ?_ | refine g_in_normal ?_ | refine g_then_ret ?_ | refine g_in_ret ?_ | refine g_then_exit ?_ | refine g_in_exit rfl ?_ | refine g_in_exit_ne (by decide) ?_ | refine g_seq ?_ | refine g_region ?_ | refine g_block ?_ | refine g_ret ?_ | refine g_return_n ?_ | refine g_exit ?_ | refine g_skip ?_)
      refine g_begin ?_
      repeat (first | refine g_endt ?_ | refine g_end ?_ | refine g_then ?_ | refine g_in_normal ?_ | refine g_then_ret ?_ | refine g_in_ret ?_ | refine g_then_exit ?_ | refine g_in_exit rfl ?_ | refine g_in_exit_ne (by decide) ?_ | refine g_seq ?_ | refine g_region ?_ | refine g_block ?_ | refine g_ret ?_ | refine g_return_n ?_ | refine g_exit ?_ | refine g_skip ?_)
      refine g_hide fun Q_ hQ_ => ?_
      refine g_draw [5] [0,1,2,3,4,5,6,7,8,9,10] [cP1 q s, stC s room nk a3, cellsB c18 x.val.cells 25] mixed rfl ?_
      refine ob_q rfl rfl ⟨_, fun X Q h => o_load1 (v := .pointer (some ⟨s, 0, none⟩)) rfl rfl (g_end (h _ _ ⟨rfl, rfl⟩)), ?_⟩
      refine ob_q rfl rfl ⟨_, fun X Q h => o_nil rfl (g_end (h _ _ ⟨rfl, rfl⟩)), ?_⟩
      first | refine ob_q rfl rfl ⟨_, fun X Q h => o_field rfl (g_end (h _ _ ⟨rfl, rfl⟩)), ?_⟩ | refine ob_q rfl rfl ⟨_, fun X Q h => o_fieldR rfl (by omega) (g_end (h _ _ ⟨rfl, rfl⟩)), ?_⟩
      refine ob_q rfl rfl ⟨_, fun X Q h => o_load1 (v := .pointer (some ⟨a3.pa, 0, none⟩)) rfl rfl (g_end (h _ _ ⟨rfl, rfl⟩)), ?_⟩
      refine ob_q rfl rfl ⟨_, fun X Q h => o_loadN (v := x.val) rfl rfl rfl (g_end (h _ _ ⟨rfl, rfl⟩)), ?_⟩
      refine ob_l rfl rfl fun Qz hz => o_call (PlaceCES_spec a3.pa ys3 x hst3.srt (by omega)) rfl rfl ?_
      rintro _ _ ⟨k3, rfl, rfl⟩
      refine g_end (hz _ _ ⟨_, ob_fin, ?_⟩)
      clear hz Qz
      refine ob_q rfl rfl ⟨_, fun X Q h => o_move (g_end (h _ _ ⟨rfl, rfl⟩)), ?_⟩
      refine ob_q rfl rfl ⟨_, fun X Q h => o_extract rfl rfl (g_end (h _ _ ⟨rfl, rfl⟩)), ?_⟩
      refine ob_q rfl rfl ⟨_, fun X Q h => o_extract rfl rfl (g_end (h _ _ ⟨rfl, rfl⟩)), ?_⟩
      refine ob_q rfl rfl ⟨_, fun X Q h => o_assign (g_end (h _ _ ⟨rfl, rfl⟩)), ?_⟩
      refine ob_q rfl rfl ⟨_, fun X Q h => o_assign (g_end (h _ _ ⟨rfl, rfl⟩)), ?_⟩
      refine ob_nil ?_
      refine G.imp (hQ_ .normal _) ?_
      clear hQ_ Q_
      try refine g_then ?_
      rw [hh]
      repeat (first | refine g_endt ?_ | refine g_end ?_ | refine g_then ?_ | refine g_in_normal ?_ | refine g_then_ret ?_ | refine g_in_ret ?_ | refine g_then_exit ?_ | refine g_in_exit rfl ?_ | refine g_in_exit_ne (by decide) ?_ | refine g_seq ?_ | refine g_region ?_ | refine g_block ?_ | refine g_ret ?_ | refine g_return_n ?_ | refine g_exit ?_ | refine g_skip ?_)
      refine g_hideR fun Q_ hQ_ => ?_
      refine o_move ?_
      refine g_end (G.imp (hQ_ .normal _) ?_)
      clear hQ_ Q_
      try refine g_then ?_
      cases hb : staysD ts x with
      | true =>
        rw [hb, if_pos rfl, List.append_nil] at hfs
        first | refine g_seq (g_cond_t rfl (by first | rfl | (simp; done) | (simp; omega) | (simp; assumption)) ?_) | refine g_cond_t rfl (by first | rfl | (simp; done) | (simp; omega) | (simp; assumption)) ?_
        refine shutSt s room nk (stayD want ts ++ ad) a3 ys3 hst3 ?_
        repeat (first | refine g_endt ?_ | refine g_end ?_ | refine g_then ?_ | refine g_in_normal ?_ | refine g_then_ret ?_ | refine g_in_ret ?_ | refine g_then_exit ?_ | refine g_in_exit rfl ?_ | refine g_in_exit_ne (by decide) ?_ | refine g_seq ?_ | refine g_region ?_ | refine g_block ?_ | refine g_ret ?_ | refine g_return_n ?_ | refine g_exit ?_ | refine g_skip ?_)
        exact g_next (tk := by
          show Take _ (GrowE c4 (tagD next (freshD (pre ++ [x]) ts)) :: StP s room (nxD next (freshD (pre ++ [x]) ts).length) (tsD (stayD want ts) (tagD next (freshD (pre ++ [x]) ts))) :: _) _
          rw [hfs, nxD_eq, tsD_eq, hnk, had]
          infer_instance)
      | false =>
        rw [hb, if_neg (by decide)] at hfs
        first | refine g_seq (g_cond_f rfl (by first | rfl | (simp; done) | (simp; omega) | (simp; assumption)) ?_) | refine g_cond_f rfl (by first | rfl | (simp; done) | (simp; omega) | (simp; assumption)) ?_
        obtain ⟨y, hy⟩ : ∃ y : ElemD, ({ x with tag := nk } : ElemD) = y := ⟨_, rfl⟩
        have hytag : y.tag = nk := by rw [← hy]
        have hyn : hasC ElemD.cmp ys3 y = false := by rw [← hy]; exact hh.trans hb
        have hst4 := hst3.put hyn hytag
        have hlt : ∀ o ∈ stayD want ts ++ ad, o.tag < y.tag := fun o ho => by rw [hytag]; exact hst3.lt o ho
        repeat (first | refine g_endt ?_ | refine g_end ?_ | refine g_then ?_ | refine g_in_normal ?_ | refine g_then_ret ?_ | refine g_in_ret ?_ | refine g_then_exit ?_ | refine g_in_exit rfl ?_ | refine g_in_exit_ne (by decide) ?_ | refine g_seq ?_ | refine g_region ?_ | refine g_block ?_ | refine g_ret ?_ | refine g_return_n ?_ | refine g_exit ?_ | refine g_skip ?_)
        repeat (first | refine g_endt ?_ | refine g_end ?_ | refine g_then ?_ | refine g_in_normal ?_ | refine g_then_ret ?_ | refine g_in_ret ?_ | refine g_then_exit ?_ | refine g_in_exit rfl ?_ | refine g_in_exit_ne (by decide) ?_ | refine g_seq ?_ | refine g_region ?_ | refine g_block ?_ | refine g_ret ?_ | refine g_return_n ?_ | refine g_exit ?_ | refine g_skip ?_)
        refine g_hideR fun Q_ hQ_ => ?_
        refine o_load1 (v := .pointer (some ⟨s, 0, none⟩)) rfl rfl ?_
        refine o_nil rfl ?_
        first | refine o_field rfl ?_ | refine o_fieldR rfl (by omega) ?_
        refine o_load1 (v := .int .i64 nk) rfl rfl ?_
        first | refine o_field rfl ?_ | refine o_fieldR rfl (by omega) ?_
        refine o_store (v := .int .i64 nk) rfl rfl rfl rfl rfl ?_
        refine g_end (G.imp (hQ_ .normal _) ?_)
        clear hQ_ Q_
        try refine g_then ?_
        refine G.norm c18 ({ x with tag := nk } : ElemD).val.cells rfl ?_
        rw [hy]
        repeat (first | refine g_endt ?_ | refine g_end ?_ | refine g_then ?_ | refine g_in_normal ?_ | refine g_then_ret ?_ | refine g_in_ret ?_ | refine g_then_exit ?_ | refine g_in_exit rfl ?_ | refine g_in_exit_ne (by decide) ?_ | refine g_seq ?_ | refine g_region ?_ | refine g_block ?_ | refine g_ret ?_ | refine g_return_n ?_ | refine g_exit ?_ | refine g_skip ?_)
        refine g_hideR fun Q_ hQ_ => ?_
        refine o_load1 (v := .pointer (some ⟨s, 0, none⟩)) rfl rfl ?_
        refine o_nil rfl ?_
        first | refine o_field rfl ?_ | refine o_fieldR rfl (by omega) ?_
        refine o_load1 (v := .int .i64 nk) rfl rfl ?_
        refine o_add (c := nk + 1) rfl rfl rfl (by omega) (by omega) ?_
        refine o_nil rfl ?_
        first | refine o_field rfl ?_ | refine o_fieldR rfl (by omega) ?_
        refine o_store (v := .int .i64 (nk + 1)) rfl rfl rfl rfl rfl ?_
        refine g_end (G.imp (hQ_ .normal _) ?_)
        clear hQ_ Q_
        try refine g_then ?_
        refine G.norm s (stV room (nk + 1) a3) rfl ?_
        repeat (first | refine g_endt ?_ | refine g_end ?_ | refine g_then ?_ | refine g_in_normal ?_ | refine g_then_ret ?_ | refine g_in_ret ?_ | refine g_then_exit ?_ | refine g_in_exit rfl ?_ | refine g_in_exit_ne (by decide) ?_ | refine g_seq ?_ | refine g_region ?_ | refine g_block ?_ | refine g_ret ?_ | refine g_return_n ?_ | refine g_exit ?_ | refine g_skip ?_)
        refine g_hideR fun Q_ hQ_ => ?_
        refine o_load1 (v := .pointer (some ⟨s, 0, none⟩)) rfl rfl ?_
        refine o_loadN (v := y.val) rfl rfl rfl ?_
        refine o_call (put10_spec s room (nk + 1) a3 (stayD want ts ++ ad) ys3 y hst3.srt hst3.tags (by omega) (by rw [List.length_append]; omega) hyn hlt) rfl rfl ?_
        rintro _ _ rfl
        refine g_end (G.imp (hQ_ .normal _) ?_)
        clear hQ_ Q_
        try refine g_then ?_
        rw [List.append_assoc] at hst4 ⊢
        refine shutSt s room (nk + 1) (stayD want ts ++ (ad ++ [y])) a3 (insC ElemD.cmp ys3 y) hst4 ?_
        refine openGE c4 ad fun U u => ?_
        repeat (first | refine g_endt ?_ | refine g_end ?_ | refine g_then ?_ | refine g_in_normal ?_ | refine g_then_ret ?_ | refine g_in_ret ?_ | refine g_then_exit ?_ | refine g_in_exit rfl ?_ | refine g_in_exit_ne (by decide) ?_ | refine g_seq ?_ | refine g_region ?_ | refine g_block ?_ | refine g_ret ?_ | refine g_return_n ?_ | refine g_exit ?_ | refine g_skip ?_)
        refine g_hideR fun Q_ hQ_ => ?_
        refine o_load1 (v := .slice U ad.length u) rfl rfl ?_
        refine o_loadN (v := y.val) rfl rfl rfl ?_
        refine o_litP (e := 25) encE [y] (y).val.cells (fun w => by kernel_rfl) (by simp [encE]) (by simp [maxLen]) fun _ => ?_
        refine o_append (xs := ad) (ys := [y]) (by first | rfl | (simp only [List.length_map, List.length_take, List.length_append]; first | rfl | (congr 1; omega))) rfl rfl rfl rfl (fun _ => .inr trivial) (by simp [maxLen]; omega) (by simp; omega) fun U2 u2 => ?_
        refine o_store (v := .slice U2 (ad.length + 1) u2) rfl rfl rfl rfl rfl ?_
        refine g_end (G.imp (hQ_ .normal _) ?_)
        clear hQ_ Q_
        try refine g_then ?_
        refine G.norm c4 #[.slice U2 (ad.length + 1) u2] rfl ?_
        refine shutGE c4 (ad ++ [y]) U2 u2 (n := ad.length + 1) (by simp) ?_
        repeat (first | refine g_endt ?_ | refine g_end ?_ | refine g_then ?_ | refine g_in_normal ?_ | refine g_then_ret ?_ | refine g_in_ret ?_ | refine g_then_exit ?_ | refine g_in_exit rfl ?_ | refine g_in_exit_ne (by decide) ?_ | refine g_seq ?_ | refine g_region ?_ | refine g_block ?_ | refine g_ret ?_ | refine g_return_n ?_ | refine g_exit ?_ | refine g_skip ?_)
        exact g_next (tk := by
          show Take _ (GrowE c4 (tagD next (freshD (pre ++ [x]) ts)) :: StP s room (nxD next (freshD (pre ++ [x]) ts).length) (tsD (stayD want ts) (tagD next (freshD (pre ++ [x]) ts))) :: _) _
          rw [hfs, nxD_eq, tsD_eq, hts2, hy, List.length_append, show next + (((freshD pre ts).length + [x].length : Nat) : Int) = nk + 1 by rw [← hnk]; simp; omega]
          infer_instance)
    · intro D2
      rw [nxD_eq, tsD_eq]
      have hadl := tagD_len next (freshD want ts)
      obtain ⟨ad, had⟩ : ∃ ad, tagD next (freshD want ts) = ad := ⟨_, rfl⟩
      rw [had]
      refine openGE c4 ad fun U u => ?_
      repeat (first | refine g_endt ?_ | refine g_end ?_ | refine g_then ?_ | refine g_in_normal ?_ | refine g_then_ret ?_ | refine g_in_ret ?_ | refine g_then_exit ?_ | refine g_in_exit rfl ?_ | refine g_in_exit_ne (by decide) ?_ | refine g_seq ?_ | refine g_region ?_ | refine g_block ?_ | refine g_ret ?_ | refine g_return_n ?_ | refine g_exit ?_ | refine g_skip ?_)
      refine g_hide fun Q_ hQ_ => ?_
      refine g_draw [2,3] [0,1,2,3,4] [cL1 c4 U ad.length u, cL1 c5 S gs.length e] mixed rfl ?_
      refine ob_q rfl rfl ⟨_, fun X Q h => o_load1 (v := .slice U ad.length u) rfl rfl (g_end (h _ _ ⟨rfl, rfl⟩)), ?_⟩
      refine ob_q rfl rfl ⟨_, fun X Q h => o_load1 (v := .slice S gs.length e) rfl rfl (g_end (h _ _ ⟨rfl, rfl⟩)), ?_⟩
      refine ob_l rfl rfl fun Qz hz => o_store (v := .slice U ad.length u) rfl rfl rfl rfl rfl ?_
      refine G.norm c4 #[.slice U ad.length u] rfl ?_
      refine g_end (hz _ _ ⟨_, ob_fin, ?_⟩)
      clear hz Qz
      refine ob_l rfl rfl fun Qz hz => o_store (v := .slice S gs.length e) rfl rfl rfl rfl rfl ?_
      refine G.norm c5 #[.slice S gs.length e] rfl ?_
      refine g_end (hz _ _ ⟨_, ob_fin, ?_⟩)
      clear hz Qz
      refine ob_q rfl rfl ⟨_, fun X Q h => o_assign (g_end (h _ _ ⟨rfl, rfl⟩)), ?_⟩
      refine ob_nil ?_
      refine G.imp (hQ_ .normal _) ?_
      clear hQ_ Q_
      try refine g_then ?_
      repeat (first | refine g_endt ?_ | refine g_end ?_ | refine g_then ?_ | refine g_in_normal ?_ | refine g_then_ret ?_ | refine g_in_ret ?_ | refine g_then_exit ?_ | refine g_in_exit rfl ?_ | refine g_in_exit_ne (by decide) ?_ | refine g_seq ?_ | refine g_region ?_ | refine g_block ?_ | refine g_ret ?_ | refine g_return_n ?_ | refine g_exit ?_ | refine g_skip ?_)
      exact ret3 (K := [StP s room (next + ((freshD want ts).length : Int)) (stayD want ts ++ ad), oE U u ad, oE S e gs, psl encE 12 A l]) rfl (resC1 rfl rfl) (resC1 rfl rfl) (resT rfl) ⟨U, u, S, e, rfl, rfl⟩
    · intro D2 c pre hp
      exact G.pu fun h => h.elim
  · intro D c pre hp
    exact G.pu fun h => h.elim
end Go.Proofs.Ytdpbjoldgiikkaa
/- Working memory's store: made, asked, told by rising tags. -/
namespace Go.Proofs.Ytdpbjoldgiikkaa
open Go Go.Sl
attribute [local irreducible] Exit.then Exit.inBlock Code.wpIn roundPost bodyPostM runL Ret Meets MeetsD Begin

theorem fresh10_spec (room next : Int) : Ctr Try.prog 36 [.int .i64 room, .int .i64 next] [] (fun v M => ∃ s, v = .pointer (some ⟨s, 0, none⟩) ∧ M = [StP s room next []]) := by
  refine spec_of Try.func36 rfl Try.ntmps36 rfl fun w0 F => ?_
  -- hide
  -- ponder/mem.fresh
  repeat (first | refine g_endt ?_ | refine g_end ?_ | refine g_then ?_ | refine g_in_normal ?_ | refine g_then_ret ?_ | refine g_in_ret ?_ | refine g_then_exit ?_ | refine g_in_exit rfl ?_ | refine g_in_exit_ne (by decide) ?_ | refine g_seq ?_ | refine g_region ?_ | refine g_block ?_ | refine g_ret ?_ | refine g_return_n ?_ | refine g_exit ?_ | refine g_skip ?_)
  refine g_hideR fun Q_ hQ_ => ?_
  refine o_assign ?_
  refine g_end (G.imp (hQ_ .normal _) ?_)
  clear hQ_ Q_
  try refine g_then ?_
  repeat (first | refine g_endt ?_ | refine g_end ?_ | refine g_then ?_ | refine g_in_normal ?_ | refine g_then_ret ?_ | refine g_in_ret ?_ | refine g_then_exit ?_ | refine g_in_exit rfl ?_ | refine g_in_exit_ne (by decide) ?_ | refine g_seq ?_ | refine g_region ?_ | refine g_block ?_ | refine g_ret ?_ | refine g_return_n ?_ | refine g_exit ?_ | refine g_skip ?_)
  refine g_hideR fun Q_ hQ_ => ?_
  refine o_move ?_
  refine o_move ?_
  refine o_call (NewES_spec) rfl rfl ?_
  rintro _ _ ⟨pa, rfl, rfl⟩
  refine o_call (NewMTE_spec) rfl rfl ?_
  rintro _ _ ⟨pt, rfl, rfl⟩
  refine o_call (NewMSE_spec) rfl rfl ?_
  rintro _ _ ⟨pi, rfl, rfl⟩
  refine o_call (NewMSE_spec) rfl rfl ?_
  rintro _ _ ⟨pr, rfl, rfl⟩
  refine o_build ((.agg (stV room next ⟨pa, pt, pi, pr⟩))) (fun w => by kernel_rfl) ?_
  refine o_boxc (stV room next ⟨pa, pt, pi, pr⟩) rfl rfl fun s => ?_
  refine o_assign ?_
  refine g_end (G.imp (hQ_ .normal _) ?_)
  clear hQ_ Q_
  try refine g_then ?_
  refine newI pi ElemD.id ?_
  refine newI pr ElemD.attr ?_
  refine shutSt s room next [] ⟨pa, pt, pi, pr⟩ [] (StI.nil next) (tk := (inferInstance : Take _ (stC s room next ⟨pa, pt, pi, pr⟩ :: [SetAES pa [], MapATE pt [], IdxP pi ElemD.id [], IdxP pr ElemD.attr []]) _)) ?_
  repeat (first | refine g_endt ?_ | refine g_end ?_ | refine g_then ?_ | refine g_in_normal ?_ | refine g_then_ret ?_ | refine g_in_ret ?_ | refine g_then_exit ?_ | refine g_in_exit rfl ?_ | refine g_in_exit_ne (by decide) ?_ | refine g_seq ?_ | refine g_region ?_ | refine g_block ?_ | refine g_ret ?_ | refine g_return_n ?_ | refine g_exit ?_ | refine g_skip ?_)
  exact ret1 (K := [StP s room next []]) rfl (resT rfl) ⟨s, rfl, rfl⟩
theorem New10_spec (room : Int) : Ctr Try.prog 11 [.int .i64 room] [] (fun v M => (room < 1 ∨ 1024 < room) ∧ v = .tuple #[.pointer none, .int .i64 1] ∧ M = [] ∨ ¬ (room < 1 ∨ 1024 < room) ∧ ∃ s, v = .tuple #[.pointer (some ⟨s, 0, none⟩), .int .i64 0] ∧ M = [StP s room 1 []]) := by
  refine spec_of Try.func11 rfl Try.ntmps11 rfl fun w0 F => ?_
  -- hide
  -- ponder/mem.New
  repeat (first | refine g_endt ?_ | refine g_end ?_ | refine g_then ?_ | refine g_in_normal ?_ | refine g_then_ret ?_ | refine g_in_ret ?_ | refine g_then_exit ?_ | refine g_in_exit rfl ?_ | refine g_in_exit_ne (by decide) ?_ | refine g_seq ?_ | refine g_region ?_ | refine g_block ?_ | refine g_ret ?_ | refine g_return_n ?_ | refine g_exit ?_ | refine g_skip ?_)
  refine g_hideR fun Q_ hQ_ => ?_
  refine o_assign ?_
  refine o_assign ?_
  refine g_end (G.imp (hQ_ .normal _) ?_)
  clear hQ_ Q_
  try refine g_then ?_
  by_cases h1 : room < 1
  · skip
    repeat (first | refine g_endt ?_ | refine g_end ?_ | refine g_then ?_ | refine g_in_normal ?_ | refine g_then_ret ?_ | refine g_in_ret ?_ | refine g_then_exit ?_ | refine g_in_exit rfl ?_ | refine g_in_exit_ne (by decide) ?_ | refine g_seq ?_ | refine g_region ?_ | refine g_block ?_ | refine g_ret ?_ | refine g_return_n ?_ | refine g_exit ?_ | refine g_skip ?_)
    refine g_hideR fun Q_ hQ_ => ?_
    refine o_move ?_
    refine o_lss rfl rfl ?_
    rw [decide_eq_true h1]
    refine o_move ?_
    first | (refine o_want rfl rfl rfl rfl rfl ?_; refine o_move ?_) | refine o_unwanted rfl rfl rfl rfl rfl ?_ | refine o_undef rfl rfl rfl ?_
    first | (refine o_want rfl rfl rfl rfl rfl ?_; refine o_gtr rfl rfl ?_) | refine o_unwanted rfl rfl rfl rfl rfl ?_ | refine o_undef rfl rfl rfl ?_
    first | refine o_pick_t rfl rfl ?_ | refine o_pick_f rfl rfl ?_
    refine g_end (G.imp (hQ_ .normal _) ?_)
    clear hQ_ Q_
    try refine g_then ?_
    first | refine g_seq (g_cond_t rfl (by first | rfl | (simp; done) | (simp; omega) | (simp; assumption)) ?_) | refine g_cond_t rfl (by first | rfl | (simp; done) | (simp; omega) | (simp; assumption)) ?_
    repeat (first | refine g_endt ?_ | refine g_end ?_ | refine g_then ?_ | refine g_in_normal ?_ | refine g_then_ret ?_ | refine g_in_ret ?_ | refine g_then_exit ?_ | refine g_in_exit rfl ?_ | refine g_in_exit_ne (by decide) ?_ | refine g_seq ?_ | refine g_region ?_ | refine g_block ?_ | refine g_ret ?_ | refine g_return_n ?_ | refine g_exit ?_ | refine g_skip ?_)
    refine g_hideR fun Q_ hQ_ => ?_
    refine o_assign ?_
    refine o_assign ?_
    refine g_end (G.imp (hQ_ .normal _) ?_)
    clear hQ_ Q_
    try refine g_then ?_
    repeat (first | refine g_endt ?_ | refine g_end ?_ | refine g_then ?_ | refine g_in_normal ?_ | refine g_then_ret ?_ | refine g_in_ret ?_ | refine g_then_exit ?_ | refine g_in_exit rfl ?_ | refine g_in_exit_ne (by decide) ?_ | refine g_seq ?_ | refine g_region ?_ | refine g_block ?_ | refine g_ret ?_ | refine g_return_n ?_ | refine g_exit ?_ | refine g_skip ?_)
    exact ret2 (K := []) rfl (resT rfl) (resT rfl) (.inl ⟨.inl h1, rfl, rfl⟩)
  · by_cases h2 : 1024 < room
    · skip
      repeat (first | refine g_endt ?_ | refine g_end ?_ | refine g_then ?_ | refine g_in_normal ?_ | refine g_then_ret ?_ | refine g_in_ret ?_ | refine g_then_exit ?_ | refine g_in_exit rfl ?_ | refine g_in_exit_ne (by decide) ?_ | refine g_seq ?_ | refine g_region ?_ | refine g_block ?_ | refine g_ret ?_ | refine g_return_n ?_ | refine g_exit ?_ | refine g_skip ?_)
      refine g_hideR fun Q_ hQ_ => ?_
      refine o_move ?_
      refine o_lss rfl rfl ?_
      rw [decide_eq_false h1]
      refine o_move ?_
      first | (refine o_want rfl rfl rfl rfl rfl ?_; refine o_move ?_) | refine o_unwanted rfl rfl rfl rfl rfl ?_ | refine o_undef rfl rfl rfl ?_
      first | (refine o_want rfl rfl rfl rfl rfl ?_; refine o_gtr rfl rfl ?_) | refine o_unwanted rfl rfl rfl rfl rfl ?_ | refine o_undef rfl rfl rfl ?_
      rw [show decide (room > 1024) = true from decide_eq_true h2]
      first | refine o_pick_t rfl rfl ?_ | refine o_pick_f rfl rfl ?_
      refine g_end (G.imp (hQ_ .normal _) ?_)
      clear hQ_ Q_
      try refine g_then ?_
      first | refine g_seq (g_cond_t rfl (by first | rfl | (simp; done) | (simp; omega) | (simp; assumption)) ?_) | refine g_cond_t rfl (by first | rfl | (simp; done) | (simp; omega) | (simp; assumption)) ?_
      repeat (first | refine g_endt ?_ | refine g_end ?_ | refine g_then ?_ | refine g_in_normal ?_ | refine g_then_ret ?_ | refine g_in_ret ?_ | refine g_then_exit ?_ | refine g_in_exit rfl ?_ | refine g_in_exit_ne (by decide) ?_ | refine g_seq ?_ | refine g_region ?_ | refine g_block ?_ | refine g_ret ?_ | refine g_return_n ?_ | refine g_exit ?_ | refine g_skip ?_)
      refine g_hideR fun Q_ hQ_ => ?_
      refine o_assign ?_
      refine o_assign ?_
      refine g_end (G.imp (hQ_ .normal _) ?_)
      clear hQ_ Q_
      try refine g_then ?_
      repeat (first | refine g_endt ?_ | refine g_end ?_ | refine g_then ?_ | refine g_in_normal ?_ | refine g_then_ret ?_ | refine g_in_ret ?_ | refine g_then_exit ?_ | refine g_in_exit rfl ?_ | refine g_in_exit_ne (by decide) ?_ | refine g_seq ?_ | refine g_region ?_ | refine g_block ?_ | refine g_ret ?_ | refine g_return_n ?_ | refine g_exit ?_ | refine g_skip ?_)
      exact ret2 (K := []) rfl (resT rfl) (resT rfl) (.inl ⟨.inr h2, rfl, rfl⟩)
    · skip
      repeat (first | refine g_endt ?_ | refine g_end ?_ | refine g_then ?_ | refine g_in_normal ?_ | refine g_then_ret ?_ | refine g_in_ret ?_ | refine g_then_exit ?_ | refine g_in_exit rfl ?_ | refine g_in_exit_ne (by decide) ?_ | refine g_seq ?_ | refine g_region ?_ | refine g_block ?_ | refine g_ret ?_ | refine g_return_n ?_ | refine g_exit ?_ | refine g_skip ?_)
      refine g_hideR fun Q_ hQ_ => ?_
      refine o_move ?_
      refine o_lss rfl rfl ?_
      rw [decide_eq_false h1]
      refine o_move ?_
      first | (refine o_want rfl rfl rfl rfl rfl ?_; refine o_move ?_) | refine o_unwanted rfl rfl rfl rfl rfl ?_ | refine o_undef rfl rfl rfl ?_
      first | (refine o_want rfl rfl rfl rfl rfl ?_; refine o_gtr rfl rfl ?_) | refine o_unwanted rfl rfl rfl rfl rfl ?_ | refine o_undef rfl rfl rfl ?_
      rw [show decide (room > 1024) = false from decide_eq_false h2]
      first | refine o_pick_t rfl rfl ?_ | refine o_pick_f rfl rfl ?_
      refine g_end (G.imp (hQ_ .normal _) ?_)
      clear hQ_ Q_
      try refine g_then ?_
      first | refine g_seq (g_cond_f rfl (by first | rfl | (simp; done) | (simp; omega) | (simp; assumption)) ?_) | refine g_cond_f rfl (by first | rfl | (simp; done) | (simp; omega) | (simp; assumption)) ?_
      repeat (first | refine g_endt ?_ | refine g_end ?_ | refine g_then ?_ | refine g_in_normal ?_ | refine g_then_ret ?_ | refine g_in_ret ?_ | refine g_then_exit ?_ | refine g_in_exit rfl ?_ | refine g_in_exit_ne (by decide) ?_ | refine g_seq ?_ | refine g_region ?_ | refine g_block ?_ | refine g_ret ?_ | refine g_return_n ?_ | refine g_exit ?_ | refine g_skip ?_)
      refine g_hideR fun Q_ hQ_ => ?_
      refine o_move ?_
      refine o_call (fresh10_spec room 1) rfl rfl ?_
      rintro _ _ ⟨s, rfl, rfl⟩
      refine o_assign ?_
      refine o_assign ?_
      refine g_end (G.imp (hQ_ .normal _) ?_)
      clear hQ_ Q_
      try refine g_then ?_
      repeat (first | refine g_endt ?_ | refine g_end ?_ | refine g_then ?_ | refine g_in_normal ?_ | refine g_then_ret ?_ | refine g_in_ret ?_ | refine g_then_exit ?_ | refine g_in_exit rfl ?_ | refine g_in_exit_ne (by decide) ?_ | refine g_seq ?_ | refine g_region ?_ | refine g_block ?_ | refine g_ret ?_ | refine g_return_n ?_ | refine g_exit ?_ | refine g_skip ?_)
      exact ret2 (K := [StP s room 1 []]) rfl (resT rfl) (resT rfl) (.inr ⟨by omega, s, rfl, rfl⟩)
theorem NewG_spec (room : Int) (h1 : 1 ≤ room) (h2 : room ≤ 1024) : Ctr Try.prog 11 [.int .i64 room] [] (fun v M => ∃ s, v = .tuple #[.pointer (some ⟨s, 0, none⟩), .int .i64 0] ∧ M = [StP s room 1 []]) :=
  (New10_spec room).mono fun v M h => by
    rcases h with ⟨h, _⟩ | ⟨_, h⟩
    · omega
    · exact h
theorem NextSt_spec (s : Nat) (room next : Int) (ts : List ElemD) : Ctr Try.prog 20 [.pointer (some ⟨s, 0, none⟩)] [StP s room next ts] (fun v M => v = .int .i64 next ∧ M = [StP s room next ts]) := by
  refine spec_of Try.func20 rfl Try.ntmps20 rfl fun w0 F => ?_
  -- hide
  -- (*ponder/mem.Store).Next
  refine openSt s room next ts fun a ys hst => ?_
  repeat (first | refine g_endt ?_ | refine g_end ?_ | refine g_then ?_ | refine g_in_normal ?_ | refine g_then_ret ?_ | refine g_in_ret ?_ | refine g_then_exit ?_ | refine g_in_exit rfl ?_ | refine g_in_exit_ne (by decide) ?_ | refine g_seq ?_ | refine g_region ?_ | refine g_block ?_ | refine g_ret ?_ | refine g_return_n ?_ | refine g_exit ?_ | refine g_skip ?_)
  refine g_hideR fun Q_ hQ_ => ?_
  refine o_assign ?_
  refine g_end (G.imp (hQ_ .normal _) ?_)
  clear hQ_ Q_
  try refine g_then ?_
  repeat (first | refine g_endt ?_ | refine g_end ?_ | refine g_then ?_ | refine g_in_normal ?_ | refine g_then_ret ?_ | refine g_in_ret ?_ | refine g_then_exit ?_ | refine g_in_exit rfl ?_ | refine g_in_exit_ne (by decide) ?_ | refine g_seq ?_ | refine g_region ?_ | refine g_block ?_ | refine g_ret ?_ | refine g_return_n ?_ | refine g_exit ?_ | refine g_skip ?_)
  refine g_hideR fun Q_ hQ_ => ?_
  refine o_move ?_
  refine o_nil rfl ?_
  first | refine o_field rfl ?_ | refine o_fieldR rfl (by omega) ?_
  refine o_load1 (v := .int .i64 next) rfl rfl ?_
  refine o_assign ?_
  refine g_end (G.imp (hQ_ .normal _) ?_)
  clear hQ_ Q_
  try refine g_then ?_
  refine shutSt s room next ts a ys hst ?_
  repeat (first | refine g_endt ?_ | refine g_end ?_ | refine g_then ?_ | refine g_in_normal ?_ | refine g_then_ret ?_ | refine g_in_ret ?_ | refine g_then_exit ?_ | refine g_in_exit rfl ?_ | refine g_in_exit_ne (by decide) ?_ | refine g_seq ?_ | refine g_region ?_ | refine g_block ?_ | refine g_ret ?_ | refine g_return_n ?_ | refine g_exit ?_ | refine g_skip ?_)
  exact ret1 (K := [StP s room next ts]) rfl (resT rfl) ⟨rfl, rfl⟩

/-! ### By rising tags -/
theorem StP_of (s : Nat) (room next : Int) (ts : List ElemD) (a : StA) (ys : List ElemD) (hi : StI next ts ys) {L M : List SProp} [tk : Take1 L (StP s room next ts) M] : Ent (sl ((stC s room next a :: stK a ts ys) ++ M)) (sl L) := by
  refine Ent.trans ?_ (sl_perm tk.perm.symm)
  refine (sl_append_to (stC s room next a :: stK a ts ys) M).trans (Ent.star ?_ (Ent.refl _))
  exact fun B h x => ⟨(a, ys), hnil, h, (Dj.nil _).symm, .nil _, .refl _, hi, x⟩
theorem pre_map {ts : List ElemD} {pre : List PgTE} {o : ElemD} (h : (pre ++ [tgE o]) <+: ts.map tgE) : (pre.map PgTE.v ++ [o]) <+: ts := by
  obtain ⟨t, ht⟩ := h
  have := congrArg (List.map PgTE.v) ht
  rw [List.map_append, List.map_append, List.map_map, show PgTE.v ∘ tgE = id from rfl, List.map_id] at this
  exact ⟨t.map PgTE.v, this⟩
theorem pre_map' {ts : List ElemD} {pre : List PgTE} (h : pre <+: ts.map tgE) : pre.map PgTE.v <+: ts := by
  obtain ⟨t, ht⟩ := h
  have := congrArg (List.map PgTE.v) ht
  rw [List.map_append, List.map_map, show PgTE.v ∘ tgE = id from rfl, List.map_id] at this
  exact ⟨t.map PgTE.v, this⟩
abbrev pSt (b s : Nat) : SProp := pblk b (.cells #[.pointer (some ⟨s, 0, none⟩)] 29 (0, 0))
theorem All1St_iter (s b : Nat) (room next : Int) (ts : List ElemD) (hl : ts.length < 1000000000) (J0 : List SProp) {M : List SProp} [tk : Take1 J0 (StP s room next ts) M] [HasP J0 (pSt b s)] :
    Iter Try.prog 50 [.pointer (some ⟨b, 0, none⟩)] encVE ts J0 := by
  intro l J Jx hJ hy
  subst hJ
  refine spec_of Try.func50 rfl Try.ntmps50 rfl fun w0 F => ?_
  -- hide
  -- (*ponder/mem.Store).All$1
  refine G.dup (pSt b s) ?_
  repeat (first | refine g_endt ?_ | refine g_end ?_ | refine g_then ?_ | refine g_in_normal ?_ | refine g_then_ret ?_ | refine g_in_ret ?_ | refine g_then_exit ?_ | refine g_in_exit rfl ?_ | refine g_in_exit_ne (by decide) ?_ | refine g_seq ?_ | refine g_region ?_ | refine g_block ?_ | refine g_ret ?_ | refine g_return_n ?_ | refine g_exit ?_ | refine g_skip ?_)
  refine g_hideR fun Q_ hQ_ => ?_
  refine o_boxc #[.func (.yield l) #[] #[]] rfl rfl fun q => ?_
  refine g_end (G.imp (hQ_ .normal _) ?_)
  clear hQ_ Q_
  try refine g_then ?_
  refine openSt s room next ts fun a ys hst => ?_
  have hO : Ent (sl ((stC s room next a :: stK a ts ys) ++ M)) (sl (J [])) := StP_of s room next ts a ys hst
  have hf : (ts.map tgE).length < 1000000000 := by simpa using hl
  repeat (first | refine g_endt ?_ | refine g_end ?_ | refine g_then ?_ | refine g_in_normal ?_ | refine g_then_ret ?_ | refine g_in_ret ?_ | refine g_then_exit ?_ | refine g_in_exit rfl ?_ | refine g_in_exit_ne (by decide) ?_ | refine g_seq ?_ | refine g_region ?_ | refine g_block ?_ | refine g_ret ?_ | refine g_return_n ?_ | refine g_exit ?_ | refine g_skip ?_)
  refine g_hideR fun Q_ hQ_ => ?_
  refine o_load1 (v := .pointer (some ⟨s, 0, none⟩)) rfl rfl ?_
  refine o_nil rfl ?_
  first | refine o_field rfl ?_ | refine o_fieldR rfl (by omega) ?_
  refine o_load1 (v := .pointer (some ⟨a.pt, 0, none⟩)) rfl rfl ?_
  refine o_call (AllMTE_spec a.pt) rfl rfl ?_
  rintro _ _ ⟨b2, rfl, rfl⟩
  refine g_end (G.imp (hQ_ .normal _) ?_)
  clear hQ_ Q_
  try refine g_then ?_
  repeat (first | refine g_endt ?_ | refine g_end ?_ | refine g_then ?_ | refine g_in_normal ?_ | refine g_then_ret ?_ | refine g_in_ret ?_ | refine g_then_exit ?_ | refine g_in_exit rfl ?_ | refine g_in_exit_ne (by decide) ?_ | refine g_seq ?_ | refine g_region ?_ | refine g_block ?_ | refine g_ret ?_ | refine g_return_n ?_ | refine g_exit ?_ | refine g_skip ?_)
  refine g_range (ps := [10, 11]) (lb := [.pointer (some ⟨b2, 0, none⟩)]) (enc := PgTE.enc2) (xs := ts.map tgE) rfl
    (fun pre => cellsB q #[.func (.yield l) #[] #[]] 36 :: pT b2 a.pt :: Jin ((stC s room next a :: stK a ts ys) ++ M) J (pre.map PgTE.v))
    (fun c pre => pu (c = .ret) :: Jx (pre.map PgTE.v))
    (fun K => AllM1TE_iter a.pt b2 (ts.map tgE) hf (K :: cellsB q #[.func (.yield l) #[] #[]] 36 :: pT b2 a.pt :: ((stC s room next a :: stK a ts ys) ++ M)))
    (fun _ => rfl) (tk := (inferInstance : Take _ (cellsB q #[.func (.yield l) #[] #[]] 36 :: pT b2 a.pt :: ((stC s room next a :: stK a ts ys) ++ M)) _)) ?_ ?_ ?_
  · intro w0 F l' r pre x hp
    obtain ⟨o, ho, rfl⟩ := List.mem_map.1 (hp.subset (by simp : x ∈ pre ++ [x]))
    have hpm := pre_map hp
    refine G.ent (L' := cellsB q #[.func (.yield l) #[] #[]] 36 :: pT b2 a.pt :: J (pre.map PgTE.v)) ((Ent.refl _).star ((Ent.refl _).star (Jin_ent hO (pre.map PgTE.v)))) ?_
    repeat (first | refine g_endt ?_ | refine g_end ?_ | refine g_then ?_ | refine g_in_normal ?_ | refine g_then_ret ?_ | refine g_in_ret ?_ | refine g_then_exit ?_ | refine g_in_exit rfl ?_ | refine g_in_exit_ne (by decide) ?_ | refine g_seq ?_ | refine g_region ?_ | refine g_block ?_ | refine g_ret ?_ | refine g_return_n ?_ | refine g_exit ?_ | refine g_skip ?_)
    refine g_hideR fun Q_ hQ_ => ?_
    refine o_alloc fun c => ?_
    refine o_store (v := o.val) rfl rfl rfl rfl rfl ?_
    refine g_end (G.imp (hQ_ .normal _) ?_)
    clear hQ_ Q_
    try refine g_then ?_
    refine G.norm c o.val.cells rfl ?_
    repeat (first | refine g_endt ?_ | refine g_end ?_ | refine g_then ?_ | refine g_in_normal ?_ | refine g_then_ret ?_ | refine g_in_ret ?_ | refine g_then_exit ?_ | refine g_in_exit rfl ?_ | refine g_in_exit_ne (by decide) ?_ | refine g_seq ?_ | refine g_region ?_ | refine g_block ?_ | refine g_ret ?_ | refine g_return_n ?_ | refine g_exit ?_ | refine g_skip ?_)
    refine g_begin ?_
    repeat (first | refine g_endt ?_ | refine g_end ?_ | refine g_then ?_ | refine g_in_normal ?_ | refine g_then_ret ?_ | refine g_in_ret ?_ | refine g_then_exit ?_ | refine g_in_exit rfl ?_ | refine g_in_exit_ne (by decide) ?_ | refine g_seq ?_ | refine g_region ?_ | refine g_block ?_ | refine g_ret ?_ | refine g_return_n ?_ | refine g_exit ?_ | refine g_skip ?_)
    refine o_load1 (v := .func (.yield l) #[] #[]) rfl rfl ?_
    refine o_loadN (v := o.val) rfl rfl rfl ?_
    refine o_yield (hy (pre.map PgTE.v) o hpm) rfl rfl ?_ ?_
    · refine o_not rfl ?_
      refine g_endt ?_
      first | refine g_seq (g_cond_f rfl (rfl) ?_) | refine g_cond_f rfl (rfl) ?_
      repeat (first | refine g_endt ?_ | refine g_end ?_ | refine g_then ?_ | refine g_in_normal ?_ | refine g_then_ret ?_ | refine g_in_ret ?_ | refine g_then_exit ?_ | refine g_in_exit rfl ?_ | refine g_in_exit_ne (by decide) ?_ | refine g_seq ?_ | refine g_region ?_ | refine g_block ?_ | refine g_ret ?_ | refine g_return_n ?_ | refine g_exit ?_ | refine g_skip ?_)
      exact g_next (tk := by rw [List.map_append]; show Take _ (_ :: _ :: Jin _ J (pre.map PgTE.v ++ [o])) _; rw [Jin_snoc]; infer_instance)
    · refine o_not rfl ?_
      refine g_endt ?_
      first | refine g_seq (g_cond_t rfl (rfl) ?_) | refine g_cond_t rfl (rfl) ?_
      repeat (first | refine g_endt ?_ | refine g_end ?_ | refine g_then ?_ | refine g_in_normal ?_ | refine g_then_ret ?_ | refine g_in_ret ?_ | refine g_then_exit ?_ | refine g_in_exit rfl ?_ | refine g_in_exit_ne (by decide) ?_ | refine g_seq ?_ | refine g_region ?_ | refine g_block ?_ | refine g_ret ?_ | refine g_return_n ?_ | refine g_exit ?_ | refine g_skip ?_)
      refine G.pu_in (q := Code.ret = Code.ret) rfl ?_
      exact g_leave_ret (tk := by rw [show (pre ++ [tgE o]).map PgTE.v = pre.map PgTE.v ++ [o] by rw [List.map_append]; rfl]; infer_instance)
  · intro D
    rw [List.map_map, show PgTE.v ∘ tgE = id from rfl, List.map_id]
    refine G.ent (L' := cellsB q #[.func (.yield l) #[] #[]] 36 :: pT b2 a.pt :: J ts) ((Ent.refl _).star ((Ent.refl _).star (Jin_ent hO ts))) ?_
    repeat (first | refine g_endt ?_ | refine g_end ?_ | refine g_then ?_ | refine g_in_normal ?_ | refine g_then_ret ?_ | refine g_in_ret ?_ | refine g_then_exit ?_ | refine g_in_exit rfl ?_ | refine g_in_exit_ne (by decide) ?_ | refine g_seq ?_ | refine g_region ?_ | refine g_block ?_ | refine g_ret ?_ | refine g_return_n ?_ | refine g_exit ?_ | refine g_skip ?_)
    exact ret0 (K := J ts) rfl (.inl rfl)
  · intro D c pre hp
    refine G.pu fun h => ?_
    subst h
    repeat (first | refine g_endt ?_ | refine g_end ?_ | refine g_then ?_ | refine g_in_normal ?_ | refine g_then_ret ?_ | refine g_in_ret ?_ | refine g_then_exit ?_ | refine g_in_exit rfl ?_ | refine g_in_exit_ne (by decide) ?_ | refine g_seq ?_ | refine g_region ?_ | refine g_block ?_ | refine g_ret ?_ | refine g_return_n ?_ | refine g_exit ?_ | refine g_skip ?_)
    exact ret0 (K := Jx (pre.map PgTE.v)) rfl (.inr ⟨pre.map PgTE.v, pre_map' hp, rfl⟩)
theorem AllSt_spec (s : Nat) : Ctr Try.prog 24 [.pointer (some ⟨s, 0, none⟩)] []
    (fun v M => ∃ b, v = .func (.func 50) #[] #[.pointer (some ⟨b, 0, none⟩)] ∧ M = [pSt b s]) := by
  refine spec_of Try.func24 rfl Try.ntmps24 rfl fun w0 F => ?_
  -- hide
  -- (*ponder/mem.Store).All
  repeat (first | refine g_endt ?_ | refine g_end ?_ | refine g_then ?_ | refine g_in_normal ?_ | refine g_then_ret ?_ | refine g_in_ret ?_ | refine g_then_exit ?_ | refine g_in_exit rfl ?_ | refine g_in_exit_ne (by decide) ?_ | refine g_seq ?_ | refine g_region ?_ | refine g_block ?_ | refine g_ret ?_ | refine g_return_n ?_ | refine g_exit ?_ | refine g_skip ?_)
  refine o_boxc #[.pointer (some ⟨s, 0, none⟩)] rfl rfl fun b => ?_
  refine G.freeze ?_
  refine o_assign ?_
  first | refine g_endt ?_ | refine g_end ?_
  repeat (first | refine g_endt ?_ | refine g_end ?_ | refine g_then ?_ | refine g_in_normal ?_ | refine g_then_ret ?_ | refine g_in_ret ?_ | refine g_then_exit ?_ | refine g_in_exit rfl ?_ | refine g_in_exit_ne (by decide) ?_ | refine g_seq ?_ | refine g_region ?_ | refine g_block ?_ | refine g_ret ?_ | refine g_return_n ?_ | refine g_exit ?_ | refine g_skip ?_)
  refine o_func ?_
  refine o_assign ?_
  first | refine g_endt ?_ | refine g_end ?_
  repeat (first | refine g_endt ?_ | refine g_end ?_ | refine g_then ?_ | refine g_in_normal ?_ | refine g_then_ret ?_ | refine g_in_ret ?_ | refine g_then_exit ?_ | refine g_in_exit rfl ?_ | refine g_in_exit_ne (by decide) ?_ | refine g_seq ?_ | refine g_region ?_ | refine g_block ?_ | refine g_ret ?_ | refine g_return_n ?_ | refine g_exit ?_ | refine g_skip ?_)
  exact ret1 rfl (resT rfl) ⟨b, rfl, rfl⟩
end Go.Proofs.Ytdpbjoldgiikkaa
/- The document's own working memory: the walk. -/
namespace Go.Proofs.Ytdpbjoldgiikkaa
open Go Go.Sl
attribute [local irreducible] Exit.then Exit.inBlock Code.wpIn roundPost bodyPostM runL Ret Meets MeetsD Begin

theorem Stays_spec (A : Option Addr) (n c : Nat) (l : List ElemD) (e : ElemD) (hl : l.length = n) (hm : n ≤ 1000000) : Ctr Try.prog 55 [.slice A n c, e.val] [psl encE 12 A l] (fun v M => v = .bool (staysD l e) ∧ M = []) := by
  refine spec_of Try.func55 rfl Try.ntmps55 rfl fun w0 F => ?_
  -- hide
  -- ponder/ponderref10.Stays
  repeat (first | refine g_endt ?_ | refine g_end ?_ | refine g_then ?_ | refine g_in_normal ?_ | refine g_then_ret ?_ | refine g_in_ret ?_ | refine g_then_exit ?_ | refine g_in_exit rfl ?_ | refine g_in_exit_ne (by decide) ?_ | refine g_seq ?_ | refine g_region ?_ | refine g_block ?_ | refine g_ret ?_ | refine g_return_n ?_ | refine g_exit ?_ | refine g_skip ?_)
  refine g_hideR fun Q_ hQ_ => ?_
  refine o_boxc e.val.cells rfl rfl fun q => ?_
  refine o_assign ?_
  refine g_end (G.imp (hQ_ .normal _) ?_)
  clear hQ_ Q_
  try refine g_then ?_
  repeat (first | refine g_endt ?_ | refine g_end ?_ | refine g_then ?_ | refine g_in_normal ?_ | refine g_then_ret ?_ | refine g_in_ret ?_ | refine g_then_exit ?_ | refine g_in_exit rfl ?_ | refine g_in_exit_ne (by decide) ?_ | refine g_seq ?_ | refine g_region ?_ | refine g_block ?_ | refine g_ret ?_ | refine g_return_n ?_ | refine g_exit ?_ | refine g_skip ?_)
  refine g_hideR fun Q_ hQ_ => ?_
  refine o_move ?_
  refine o_loadN (v := e.val) rfl rfl rfl ?_
  refine o_callp (FindE_spec A n c l e hl hm) rfl rfl ?_
  rintro _ _ ⟨rfl, rfl⟩
  refine o_move ?_
  refine o_extract rfl rfl ?_
  refine o_extract rfl rfl ?_
  refine o_alloc fun r => ?_
  refine o_store (v := ((findE l e).getD ElemD.zero).val) rfl rfl rfl rfl rfl ?_
  refine o_assign ?_
  refine g_end (G.imp (hQ_ .normal _) ?_)
  clear hQ_ Q_
  try refine g_then ?_
  refine G.norm r ((findE l e).getD ElemD.zero).val.cells rfl ?_
  unfold staysD
  obtain ⟨o, ho⟩ : ∃ o, findE l e = o := ⟨_, rfl⟩
  rw [ho, show getM ElemD.cmp l e = o from ho]
  cases o with
  | none =>
    repeat (first | refine g_endt ?_ | refine g_end ?_ | refine g_then ?_ | refine g_in_normal ?_ | refine g_then_ret ?_ | refine g_in_ret ?_ | refine g_then_exit ?_ | refine g_in_exit rfl ?_ | refine g_in_exit_ne (by decide) ?_ | refine g_seq ?_ | refine g_region ?_ | refine g_block ?_ | refine g_ret ?_ | refine g_return_n ?_ | refine g_exit ?_ | refine g_skip ?_)
    refine g_hideR fun Q_ hQ_ => ?_
    refine o_move ?_
    refine o_move ?_
    first | (refine o_want rfl rfl rfl rfl rfl ?_; (first | refine o_field rfl ?_ | refine o_fieldR rfl (by omega) ?_)) | refine o_unwanted rfl rfl rfl rfl rfl ?_ | refine o_undef rfl rfl rfl ?_
    first | (refine o_want rfl rfl rfl rfl rfl ?_; (first | refine o_load1 rfl rfl ?_ | refine o_loadE0 rfl (by assumption) rfl ?_ | refine o_loadE1 rfl (by assumption) rfl ?_)) | refine o_unwanted rfl rfl rfl rfl rfl ?_ | refine o_undef rfl rfl rfl ?_
    first | (refine o_want rfl rfl rfl rfl rfl ?_; (first | refine o_field rfl ?_ | refine o_fieldR rfl (by omega) ?_)) | refine o_unwanted rfl rfl rfl rfl rfl ?_ | refine o_undef rfl rfl rfl ?_
    first | (refine o_want rfl rfl rfl rfl rfl ?_; (first | refine o_load1 rfl rfl ?_ | refine o_loadE0 rfl (by assumption) rfl ?_ | refine o_loadE1 rfl (by assumption) rfl ?_)) | refine o_unwanted rfl rfl rfl rfl rfl ?_ | refine o_undef rfl rfl rfl ?_
    first | refine o_unwanted rfl rfl rfl rfl rfl ?_ | refine o_undef rfl rfl rfl ?_
    first | refine o_pick_t rfl rfl ?_ | refine o_pick_f rfl rfl ?_
    refine o_assign ?_
    refine g_end (G.imp (hQ_ .normal _) ?_)
    clear hQ_ Q_
    try refine g_then ?_
    repeat (first | refine g_endt ?_ | refine g_end ?_ | refine g_then ?_ | refine g_in_normal ?_ | refine g_then_ret ?_ | refine g_in_ret ?_ | refine g_then_exit ?_ | refine g_in_exit rfl ?_ | refine g_in_exit_ne (by decide) ?_ | refine g_seq ?_ | refine g_region ?_ | refine g_block ?_ | refine g_ret ?_ | refine g_return_n ?_ | refine g_exit ?_ | refine g_skip ?_)
    exact ret1 (K := []) rfl (resT rfl) ⟨rfl, rfl⟩
  | some x =>
    refine G.norm r x.val.cells rfl ?_
    repeat (first | refine g_endt ?_ | refine g_end ?_ | refine g_then ?_ | refine g_in_normal ?_ | refine g_then_ret ?_ | refine g_in_ret ?_ | refine g_then_exit ?_ | refine g_in_exit rfl ?_ | refine g_in_exit_ne (by decide) ?_ | refine g_seq ?_ | refine g_region ?_ | refine g_block ?_ | refine g_ret ?_ | refine g_return_n ?_ | refine g_exit ?_ | refine g_skip ?_)
    refine g_hideR fun Q_ hQ_ => ?_
    refine o_move ?_
    refine o_move ?_
    first | (refine o_want rfl rfl rfl rfl rfl ?_; (first | refine o_field rfl ?_ | refine o_fieldR rfl (by omega) ?_)) | refine o_unwanted rfl rfl rfl rfl rfl ?_ | refine o_undef rfl rfl rfl ?_
    refine o_want rfl rfl rfl rfl rfl (o_load1 (v := .bool x.goal) rfl rfl ?_)
    first | (refine o_want rfl rfl rfl rfl rfl ?_; (first | refine o_field rfl ?_ | refine o_fieldR rfl (by omega) ?_)) | refine o_unwanted rfl rfl rfl rfl rfl ?_ | refine o_undef rfl rfl rfl ?_
    refine o_want rfl rfl rfl rfl rfl (o_load1 (v := .bool e.goal) rfl rfl ?_)
    refine o_want rfl rfl rfl rfl rfl (o_eqty rfl rfl (eq_bool x.goal e.goal) ?_)
    first | refine o_pick_t rfl rfl ?_ | refine o_pick_f rfl rfl ?_
    refine o_assign ?_
    refine g_end (G.imp (hQ_ .normal _) ?_)
    clear hQ_ Q_
    try refine g_then ?_
    repeat (first | refine g_endt ?_ | refine g_end ?_ | refine g_then ?_ | refine g_in_normal ?_ | refine g_then_ret ?_ | refine g_in_ret ?_ | refine g_then_exit ?_ | refine g_in_exit rfl ?_ | refine g_in_exit_ne (by decide) ?_ | refine g_seq ?_ | refine g_region ?_ | refine g_block ?_ | refine g_ret ?_ | refine g_return_n ?_ | refine g_exit ?_ | refine g_skip ?_)
    exact ret1 (K := []) rfl (resT rfl) ⟨rfl, rfl⟩
abbrev rfC (r : Nat) (room next : Int) (L : Option Addr) (n c : Nat) : SProp := cellsB r #[.int .i64 room, .int .i64 next, .slice L n c] 59
def RefP (r : Nat) (room next : Int) (ts : List ElemD) : SProp := ex fun t : Option Addr × Nat => sl [rfC r room next t.1 ts.length t.2, psl encE 12 t.1 ts]
section
variable {w0 : World} {A : SProp} {L M : List SProp} {Φ : World → Prop}
theorem openRf (r : Nat) (room next : Int) (ts : List ElemD) [tk : Take1 L (RefP r room next ts) M] (h : ∀ S c, G w0 A (rfC r room next S ts.length c :: psl encE 12 S ts :: M) Φ) : G w0 A L Φ :=
  G.perm tk.perm (G.ex fun ⟨S, c⟩ => G.open_sl (h S c))
theorem shutRf (r : Nat) (room next : Int) (ts : List ElemD) (S : Option Addr) (n c : Nat) (hn : ts.length = n) [tk : Take L [rfC r room next S n c, psl encE 12 S ts] M] (h : G w0 A (RefP r room next ts :: M) Φ) : G w0 A L Φ := by
  subst hn
  exact G.perm tk.perm (G.ent ((sl_append_to _ M).trans (Ent.star (show Ent _ (RefP r room next ts) from fun _ _ x => ⟨(S, c), x⟩) (Ent.refl _))) h)
end
theorem stay_snoc (want pre : List ElemD) (x : ElemD) : stayD want (pre ++ [x]) = stayD want pre ++ (if staysD want x then [x] else []) := by
  unfold stayD
  rw [List.filter_append]
  cases h : staysD want x <;> simp [h]
set_option maxHeartbeats 8000000 in
theorem RSet_spec (r : Nat) (room next : Int) (ts : List ElemD) (A : Option Addr) (n c : Nat) (l : List ElemD) (hl : l.length = n) (hm : n ≤ 10000) (hsm : ∀ e ∈ l, e.small) (hts : ts.length ≤ 10000) (hnx : -1000000000 ≤ next ∧ next ≤ 1000000000) :
    Ctr Try.prog 30 [.pointer (some ⟨r, 0, none⟩), .slice A n c] [RefP r room next ts, psl encE 12 A l]
      (fun v M => ∃ U u W w, v = .tuple #[.slice U (setD room next ts l).added.length u, .slice W (setD room next ts l).gone.length w, .int .i64 (setD room next ts l).err] ∧
        M = [RefP r room (setD room next ts l).next (setD room next ts l).ts, psl encE 12 U (setD room next ts l).added, psl encE 12 W (setD room next ts l).gone, psl encE 12 A l]) := by
  refine spec_of Try.func30 rfl Try.ntmps30 rfl fun w0 F => ?_
  -- hide
  -- (*ponder/ponderref10.Store).Set
  repeat (first | refine g_endt ?_ | refine g_end ?_ | refine g_then ?_ | refine g_in_normal ?_ | refine g_then_ret ?_ | refine g_in_ret ?_ | refine g_then_exit ?_ | refine g_in_exit rfl ?_ | refine g_in_exit_ne (by decide) ?_ | refine g_seq ?_ | refine g_region ?_ | refine g_block ?_ | refine g_ret ?_ | refine g_return_n ?_ | refine g_exit ?_ | refine g_skip ?_)
  refine g_hideR fun Q_ hQ_ => ?_
  refine o_assign ?_
  refine o_assign ?_
  refine o_assign ?_
  refine g_end (G.imp (hQ_ .normal _) ?_)
  clear hQ_ Q_
  try refine g_then ?_
  repeat (first | refine g_endt ?_ | refine g_end ?_ | refine g_then ?_ | refine g_in_normal ?_ | refine g_then_ret ?_ | refine g_in_ret ?_ | refine g_then_exit ?_ | refine g_in_exit rfl ?_ | refine g_in_exit_ne (by decide) ?_ | refine g_seq ?_ | refine g_region ?_ | refine g_block ?_ | refine g_ret ?_ | refine g_return_n ?_ | refine g_exit ?_ | refine g_skip ?_)
  refine g_hideR fun Q_ hQ_ => ?_
  refine o_assign ?_
  refine g_end (G.imp (hQ_ .normal _) ?_)
  clear hQ_ Q_
  try refine g_then ?_
  repeat (first | refine g_endt ?_ | refine g_end ?_ | refine g_then ?_ | refine g_in_normal ?_ | refine g_then_ret ?_ | refine g_in_ret ?_ | refine g_then_exit ?_ | refine g_in_exit rfl ?_ | refine g_in_exit_ne (by decide) ?_ | refine g_seq ?_ | refine g_region ?_ | refine g_block ?_ | refine g_ret ?_ | refine g_return_n ?_ | refine g_exit ?_ | refine g_skip ?_)
  refine g_loop (σ := {i : Nat // i ≤ n ∧ ∀ (j : Nat) (e : ElemD), j < i → l[j]? = some e → validE e = true}) (S := fun i => [(0, .pointer (some ⟨r, 0, none⟩)), (1, .slice A n c), (7, .int .i64 (i.1 : Int))])
    (H := fun _ => [RefP r room next ts, psl encE 12 A l]) (μ := fun i => n - i.1) (s0 := ⟨0, Nat.zero_le _, fun j e h => absurd h (Nat.not_lt_zero j)⟩) (Sat.mem ⟨rfl, rfl, rfl, trivial⟩) ?_
  rintro ⟨i, hi, hlow⟩ ρ'
  dsimp only at hi hlow ⊢
  repeat (first | refine g_endt ?_ | refine g_end ?_ | refine g_then ?_ | refine g_in_normal ?_ | refine g_then_ret ?_ | refine g_in_ret ?_ | refine g_then_exit ?_ | refine g_in_exit rfl ?_ | refine g_in_exit_ne (by decide) ?_ | refine g_seq ?_ | refine g_region ?_ | refine g_block ?_ | refine g_ret ?_ | refine g_return_n ?_ | refine g_exit ?_ | refine g_skip ?_)
  refine g_hideR fun Q_ hQ_ => ?_
  refine o_move ?_
  refine o_move ?_
  refine o_len rfl rfl ?_
  refine o_lss rfl rfl ?_
  refine g_end (G.imp (hQ_ .normal _) ?_)
  clear hQ_ Q_
  try refine g_then ?_
  by_cases hin : i < n
  · first | refine g_seq (g_cond_t rfl (by first | rfl | (simp; done) | (simp; omega) | (simp; assumption)) ?_) | refine g_cond_t rfl (by first | rfl | (simp; done) | (simp; omega) | (simp; assumption)) ?_
    obtain ⟨e, he⟩ : ∃ e, l[i]? = some e := ⟨_, List.getElem?_eq_getElem (by omega)⟩
    repeat (first | refine g_endt ?_ | refine g_end ?_ | refine g_then ?_ | refine g_in_normal ?_ | refine g_then_ret ?_ | refine g_in_ret ?_ | refine g_then_exit ?_ | refine g_in_exit rfl ?_ | refine g_in_exit_ne (by decide) ?_ | refine g_seq ?_ | refine g_region ?_ | refine g_block ?_ | refine g_ret ?_ | refine g_return_n ?_ | refine g_exit ?_ | refine g_skip ?_)
    refine g_hideR fun Q_ hQ_ => ?_
    refine o_move ?_
    refine o_move ?_
    refine o_indexR (ys := l) (i := i) rfl rfl rfl (by omega) hl rfl ?_
    refine o_loadE (ys := l) rfl rfl he ?_
    refine o_call (ValidR_spec e (hsm e (List.mem_of_getElem? he))) rfl rfl ?_
    rintro _ _ ⟨rfl, rfl⟩
    refine o_not rfl ?_
    refine g_end (G.imp (hQ_ .normal _) ?_)
    clear hQ_ Q_
    try refine g_then ?_
    cases hv : validE e with
    | false =>
      first | refine g_seq (g_cond_t rfl (by first | rfl | (simp; done) | (simp; omega) | (simp; assumption)) ?_) | refine g_cond_t rfl (by first | rfl | (simp; done) | (simp; omega) | (simp; assumption)) ?_
      rw [setD_bad (show l.all validE = false from by rw [List.all_eq_false]; exact ⟨e, List.mem_of_getElem? he, by rw [hv]; decide⟩)]
      repeat (first | refine g_endt ?_ | refine g_end ?_ | refine g_then ?_ | refine g_in_normal ?_ | refine g_then_ret ?_ | refine g_in_ret ?_ | refine g_then_exit ?_ | refine g_in_exit rfl ?_ | refine g_in_exit_ne (by decide) ?_ | refine g_seq ?_ | refine g_region ?_ | refine g_block ?_ | refine g_ret ?_ | refine g_return_n ?_ | refine g_exit ?_ | refine g_skip ?_)
      refine g_hideR fun Q_ hQ_ => ?_
      refine o_assign ?_
      refine o_assign ?_
      refine o_assign ?_
      refine g_end (G.imp (hQ_ .normal _) ?_)
      clear hQ_ Q_
      try refine g_then ?_
      refine G.nil_slice 25 encE 12 ?_
      refine G.freeze_slice ?_
      refine G.nil_slice 25 encE 12 ?_
      refine G.freeze_slice ?_
      repeat (first | refine g_endt ?_ | refine g_end ?_ | refine g_then ?_ | refine g_in_normal ?_ | refine g_then_ret ?_ | refine g_in_ret ?_ | refine g_then_exit ?_ | refine g_in_exit rfl ?_ | refine g_in_exit_ne (by decide) ?_ | refine g_seq ?_ | refine g_region ?_ | refine g_block ?_ | refine g_ret ?_ | refine g_return_n ?_ | refine g_exit ?_ | refine g_skip ?_)
      exact ret3 (K := [RefP r room next ts, psl encE 12 none ([] : List ElemD), psl encE 12 none ([] : List ElemD), psl encE 12 A l]) rfl (resT rfl) (resT rfl) (resT rfl) ⟨none, 0, none, 0, rfl, rfl⟩
    | true =>
      first | refine g_seq (g_cond_f rfl (by first | rfl | (simp; done) | (simp; omega) | (simp; assumption)) ?_) | refine g_cond_f rfl (by first | rfl | (simp; done) | (simp; omega) | (simp; assumption)) ?_
      repeat (first | refine g_endt ?_ | refine g_end ?_ | refine g_then ?_ | refine g_in_normal ?_ | refine g_then_ret ?_ | refine g_in_ret ?_ | refine g_then_exit ?_ | refine g_in_exit rfl ?_ | refine g_in_exit_ne (by decide) ?_ | refine g_seq ?_ | refine g_region ?_ | refine g_block ?_ | refine g_ret ?_ | refine g_return_n ?_ | refine g_exit ?_ | refine g_skip ?_)
      repeat (first | refine g_endt ?_ | refine g_end ?_ | refine g_then ?_ | refine g_in_normal ?_ | refine g_then_ret ?_ | refine g_in_ret ?_ | refine g_then_exit ?_ | refine g_in_exit rfl ?_ | refine g_in_exit_ne (by decide) ?_ | refine g_seq ?_ | refine g_region ?_ | refine g_block ?_ | refine g_ret ?_ | refine g_return_n ?_ | refine g_exit ?_ | refine g_skip ?_)
      refine g_hideR fun Q_ hQ_ => ?_
      refine o_move ?_
      refine o_add (c := ((i + 1 : Nat) : Int)) rfl rfl (by omega) (by omega) (by omega) ?_
      refine o_assign ?_
      refine g_end (G.imp (hQ_ .normal _) ?_)
      clear hQ_ Q_
      try refine g_then ?_
      repeat (first | refine g_endt ?_ | refine g_end ?_ | refine g_then ?_ | refine g_in_normal ?_ | refine g_then_ret ?_ | refine g_in_ret ?_ | refine g_then_exit ?_ | refine g_in_exit rfl ?_ | refine g_in_exit_ne (by decide) ?_ | refine g_seq ?_ | refine g_region ?_ | refine g_block ?_ | refine g_ret ?_ | refine g_return_n ?_ | refine g_exit ?_ | refine g_skip ?_)
      have hn : ∀ (j : Nat) (z : ElemD), j < i + 1 → l[j]? = some z → validE z = true := fun j z hj hz => by
        by_cases ej : j = i
        · subst ej; rw [he] at hz; cases hz; exact hv
        · exact hlow j z (by omega) hz
      exact g_meets ⟨i + 1, hin, hn⟩ (by show n - (i + 1) < n - i; omega) (Sat.mem ⟨rfl, rfl, rfl, trivial⟩)
  first | refine g_seq (g_cond_f rfl (by simp; omega) ?_) | refine g_cond_f rfl (by simp; omega) ?_
  have hall : l.all validE = true := List.all_eq_true.2 fun e he => by
    obtain ⟨j, hj⟩ := List.mem_iff_getElem?.1 he
    exact hlow j e (by have := (List.getElem?_eq_some_iff.1 hj).1; omega) hj
  refine openRf r room next ts fun Lr cr => ?_
  have hwl := sortE_len' l
  repeat (first | refine g_endt ?_ | refine g_end ?_ | refine g_then ?_ | refine g_in_normal ?_ | refine g_then_ret ?_ | refine g_in_ret ?_ | refine g_then_exit ?_ | refine g_in_exit rfl ?_ | refine g_in_exit_ne (by decide) ?_ | refine g_seq ?_ | refine g_region ?_ | refine g_block ?_ | refine g_ret ?_ | refine g_return_n ?_ | refine g_exit ?_ | refine g_skip ?_)
  refine g_hideR fun Q_ hQ_ => ?_
  refine o_move ?_
  refine o_callp (SortE_spec A n c l hl hm) rfl rfl ?_
  rintro _ _ ⟨T, d, hTd, rfl, rfl⟩
  refine o_assign ?_
  refine g_end (G.imp (hQ_ .normal _) ?_)
  clear hQ_ Q_
  try refine g_then ?_
  repeat (first | refine g_endt ?_ | refine g_end ?_ | refine g_then ?_ | refine g_in_normal ?_ | refine g_then_ret ?_ | refine g_in_ret ?_ | refine g_then_exit ?_ | refine g_in_exit rfl ?_ | refine g_in_exit_ne (by decide) ?_ | refine g_seq ?_ | refine g_region ?_ | refine g_block ?_ | refine g_ret ?_ | refine g_return_n ?_ | refine g_exit ?_ | refine g_skip ?_)
  refine g_hideR fun Q_ hQ_ => ?_
  refine o_move ?_
  refine o_len rfl rfl ?_
  refine o_move ?_
  refine o_nil rfl ?_
  first | refine o_field rfl ?_ | refine o_fieldR rfl (by omega) ?_
  refine o_load1 (v := .int .i64 room) rfl rfl ?_
  refine o_gtr rfl rfl ?_
  refine g_end (G.imp (hQ_ .normal _) ?_)
  clear hQ_ Q_
  try refine g_then ?_
  by_cases hov : room < ((sortE l).length : Int)
  · first | refine g_seq (g_cond_t rfl (by simpa using hov) ?_) | refine g_cond_t rfl (by simpa using hov) ?_
    rw [setD_full hall hov]
    repeat (first | refine g_endt ?_ | refine g_end ?_ | refine g_then ?_ | refine g_in_normal ?_ | refine g_then_ret ?_ | refine g_in_ret ?_ | refine g_then_exit ?_ | refine g_in_exit rfl ?_ | refine g_in_exit_ne (by decide) ?_ | refine g_seq ?_ | refine g_region ?_ | refine g_block ?_ | refine g_ret ?_ | refine g_return_n ?_ | refine g_exit ?_ | refine g_skip ?_)
    refine g_hideR fun Q_ hQ_ => ?_
    refine o_assign ?_
    refine o_assign ?_
    refine o_assign ?_
    refine g_end (G.imp (hQ_ .normal _) ?_)
    clear hQ_ Q_
    try refine g_then ?_
    refine shutRf r room next ts Lr ts.length cr rfl ?_
    refine G.nil_slice 25 encE 12 ?_
    refine G.freeze_slice ?_
    refine G.nil_slice 25 encE 12 ?_
    refine G.freeze_slice ?_
    repeat (first | refine g_endt ?_ | refine g_end ?_ | refine g_then ?_ | refine g_in_normal ?_ | refine g_then_ret ?_ | refine g_in_ret ?_ | refine g_then_exit ?_ | refine g_in_exit rfl ?_ | refine g_in_exit_ne (by decide) ?_ | refine g_seq ?_ | refine g_region ?_ | refine g_block ?_ | refine g_ret ?_ | refine g_return_n ?_ | refine g_exit ?_ | refine g_skip ?_)
    exact ret3 (K := [RefP r room next ts, psl encE 12 none ([] : List ElemD), psl encE 12 none ([] : List ElemD), psl encE 12 A l]) rfl (resT rfl) (resT rfl) (resT rfl) ⟨none, 0, none, 0, rfl, rfl⟩
  first | refine g_seq (g_cond_f rfl (by simpa using hov) ?_) | refine g_cond_f rfl (by simpa using hov) ?_
  rw [setD_ok hall hov]
  generalize sortE l = want at hwl hTd ⊢
  repeat (first | refine g_endt ?_ | refine g_end ?_ | refine g_then ?_ | refine g_in_normal ?_ | refine g_then_ret ?_ | refine g_in_ret ?_ | refine g_then_exit ?_ | refine g_in_exit rfl ?_ | refine g_in_exit_ne (by decide) ?_ | refine g_seq ?_ | refine g_region ?_ | refine g_block ?_ | refine g_ret ?_ | refine g_return_n ?_ | refine g_exit ?_ | refine g_skip ?_)
  refine g_hideR fun Q_ hQ_ => ?_
  refine o_assign ?_
  refine o_assign ?_
  refine o_assign ?_
  refine g_end (G.imp (hQ_ .normal _) ?_)
  clear hQ_ Q_
  try refine g_then ?_
  repeat (first | refine g_endt ?_ | refine g_end ?_ | refine g_then ?_ | refine g_in_normal ?_ | refine g_then_ret ?_ | refine g_in_ret ?_ | refine g_then_exit ?_ | refine g_in_exit rfl ?_ | refine g_in_exit_ne (by decide) ?_ | refine g_seq ?_ | refine g_region ?_ | refine g_block ?_ | refine g_ret ?_ | refine g_return_n ?_ | refine g_exit ?_ | refine g_skip ?_)
  refine g_hideR fun Q_ hQ_ => ?_
  refine o_assign ?_
  refine g_end (G.imp (hQ_ .normal _) ?_)
  clear hQ_ Q_
  try refine g_then ?_
  refine G.nil_slice 25 encE 12 ?_
  refine G.nil_slice 25 encE 12 ?_
  repeat (first | refine g_endt ?_ | refine g_end ?_ | refine g_then ?_ | refine g_in_normal ?_ | refine g_then_ret ?_ | refine g_in_ret ?_ | refine g_then_exit ?_ | refine g_in_exit rfl ?_ | refine g_in_exit_ne (by decide) ?_ | refine g_seq ?_ | refine g_region ?_ | refine g_block ?_ | refine g_ret ?_ | refine g_return_n ?_ | refine g_exit ?_ | refine g_skip ?_)
  refine g_loop (σ := {t : Nat × (Option Addr × Nat) × (Option Addr × Nat) // t.1 ≤ ts.length}) (S := fun t => [(0, .pointer (some ⟨r, 0, none⟩)), (1, .slice T want.length d), (8, .slice t.1.2.1.1 (stayD want (ts.take t.1.1)).length t.1.2.1.2), (9, .slice t.1.2.2.1 (goneD want (ts.take t.1.1)).length t.1.2.2.2), (10, .slice none 0 0), (11, .int .i64 (t.1.1 : Int))])
    (H := fun t => [oE t.1.2.1.1 t.1.2.1.2 (stayD want (ts.take t.1.1)), oE t.1.2.2.1 t.1.2.2.2 (goneD want (ts.take t.1.1)), rfC r room next Lr ts.length cr, psl encE 12 Lr ts, psl encE 12 T want, psl encE 12 A l]) (μ := fun t => ts.length - t.1.1) (s0 := ⟨(0, (none, 0), (none, 0)), Nat.zero_le _⟩) (Sat.mem ⟨rfl, rfl, rfl, rfl, rfl, rfl, trivial⟩)
    (t := (inferInstance : Take _ [oE none 0 [], oE none 0 [], rfC r room next Lr ts.length cr, psl encE 12 Lr ts, psl encE 12 T want, psl encE 12 A l] _)) ?_
  rintro ⟨⟨k, ⟨U, u⟩, ⟨W, w⟩⟩, hk⟩ ρ2
  dsimp only at hk ⊢
  have htk : (ts.take k).length ≤ k := by simp; omega
  have hsl : (stayD want (ts.take k)).length ≤ (ts.take k).length := List.length_filter_le _ _
  have hgl : (goneD want (ts.take k)).length ≤ (ts.take k).length := List.length_filter_le _ _
  repeat (first | refine g_endt ?_ | refine g_end ?_ | refine g_then ?_ | refine g_in_normal ?_ | refine g_then_ret ?_ | refine g_in_ret ?_ | refine g_then_exit ?_ | refine g_in_exit rfl ?_ | refine g_in_exit_ne (by decide) ?_ | refine g_seq ?_ | refine g_region ?_ | refine g_block ?_ | refine g_ret ?_ | refine g_return_n ?_ | refine g_exit ?_ | refine g_skip ?_)
  refine g_hideR fun Q_ hQ_ => ?_
  refine o_move ?_
  refine o_move ?_
  refine o_nil rfl ?_
  first | refine o_field rfl ?_ | refine o_fieldR rfl (by omega) ?_
  refine o_load1 (v := .slice Lr ts.length cr) rfl rfl ?_
  refine o_len rfl rfl ?_
  refine o_lss rfl rfl ?_
  refine g_end (G.imp (hQ_ .normal _) ?_)
  clear hQ_ Q_
  try refine g_then ?_
  by_cases hkt : k < ts.length
  · first | refine g_seq (g_cond_t rfl (by first | rfl | (simp; done) | (simp; omega) | (simp; assumption)) ?_) | refine g_cond_t rfl (by first | rfl | (simp; done) | (simp; omega) | (simp; assumption)) ?_
    obtain ⟨o, ho⟩ : ∃ o, ts[k]? = some o := ⟨_, List.getElem?_eq_getElem hkt⟩
    have htk1 : ts.take (k + 1) = ts.take k ++ [o] := by rw [List.take_add_one, ho]; rfl
    have hs1 := stay_snoc want (ts.take k) o
    have hg1 := gone_snoc want (ts.take k) o
    rw [← htk1] at hs1 hg1
    generalize stayD want (ts.take k) = ss at hsl hs1 ⊢
    generalize goneD want (ts.take k) = gs at hgl hg1 ⊢
    repeat (first | refine g_endt ?_ | refine g_end ?_ | refine g_then ?_ | refine g_in_normal ?_ | refine g_then_ret ?_ | refine g_in_ret ?_ | refine g_then_exit ?_ | refine g_in_exit rfl ?_ | refine g_in_exit_ne (by decide) ?_ | refine g_seq ?_ | refine g_region ?_ | refine g_block ?_ | refine g_ret ?_ | refine g_return_n ?_ | refine g_exit ?_ | refine g_skip ?_)
    refine g_hideR fun Q_ hQ_ => ?_
    refine o_move ?_
    refine o_move ?_
    refine o_nil rfl ?_
    first | refine o_field rfl ?_ | refine o_fieldR rfl (by omega) ?_
    refine o_load1 (v := .slice Lr ts.length cr) rfl rfl ?_
    refine o_move ?_
    refine o_indexR (ys := ts) (i := k) rfl rfl rfl hkt rfl rfl ?_
    refine o_loadE (ys := ts) rfl rfl ho ?_
    refine o_callp (Stays_spec T want.length d want o rfl (by omega)) rfl rfl ?_
    rintro _ _ ⟨rfl, rfl⟩
    refine g_end (G.imp (hQ_ .normal _) ?_)
    clear hQ_ Q_
    try refine g_then ?_
    cases hb : staysD want o with
    | true =>
      rw [hb, if_pos rfl] at hs1
      rw [hb, if_pos rfl, List.append_nil] at hg1
      first | refine g_seq (g_cond_t rfl (by first | rfl | (simp; done) | (simp; omega) | (simp; assumption)) ?_) | refine g_cond_t rfl (by first | rfl | (simp; done) | (simp; omega) | (simp; assumption)) ?_
      repeat (first | refine g_endt ?_ | refine g_end ?_ | refine g_then ?_ | refine g_in_normal ?_ | refine g_then_ret ?_ | refine g_in_ret ?_ | refine g_then_exit ?_ | refine g_in_exit rfl ?_ | refine g_in_exit_ne (by decide) ?_ | refine g_seq ?_ | refine g_region ?_ | refine g_block ?_ | refine g_ret ?_ | refine g_return_n ?_ | refine g_exit ?_ | refine g_skip ?_)
      refine g_hideR fun Q_ hQ_ => ?_
      refine o_move ?_
      refine o_move ?_
      refine o_nil rfl ?_
      first | refine o_field rfl ?_ | refine o_fieldR rfl (by omega) ?_
      refine o_load1 (v := .slice Lr ts.length cr) rfl rfl ?_
      refine o_move ?_
      refine o_indexR (ys := ts) (i := k) rfl rfl rfl hkt rfl rfl ?_
      refine o_loadE (ys := ts) rfl rfl ho ?_
      refine o_litP (e := 25) encE [o] (o).val.cells (fun w => by kernel_rfl) (by simp [encE]) (by simp [maxLen]) fun _ => ?_
      refine o_append (xs := ss) (ys := [o]) (by first | rfl | (simp only [List.length_map, List.length_take, List.length_append]; first | rfl | (congr 1; omega))) rfl rfl rfl rfl (fun _ => .inr trivial) (by simp [maxLen]; omega) (by simp; omega) fun U2 u2 => ?_
      refine o_assign ?_
      refine g_end (G.imp (hQ_ .normal _) ?_)
      clear hQ_ Q_
      try refine g_then ?_
      rw [← hs1, ← hg1]
      repeat (first | refine g_endt ?_ | refine g_end ?_ | refine g_then ?_ | refine g_in_normal ?_ | refine g_then_ret ?_ | refine g_in_ret ?_ | refine g_then_exit ?_ | refine g_in_exit rfl ?_ | refine g_in_exit_ne (by decide) ?_ | refine g_seq ?_ | refine g_region ?_ | refine g_block ?_ | refine g_ret ?_ | refine g_return_n ?_ | refine g_exit ?_ | refine g_skip ?_)
      repeat (first | refine g_endt ?_ | refine g_end ?_ | refine g_then ?_ | refine g_in_normal ?_ | refine g_then_ret ?_ | refine g_in_ret ?_ | refine g_then_exit ?_ | refine g_in_exit rfl ?_ | refine g_in_exit_ne (by decide) ?_ | refine g_seq ?_ | refine g_region ?_ | refine g_block ?_ | refine g_ret ?_ | refine g_return_n ?_ | refine g_exit ?_ | refine g_skip ?_)
      refine g_hideR fun Q_ hQ_ => ?_
      refine o_move ?_
      refine o_add (c := ((k + 1 : Nat) : Int)) rfl rfl (by omega) (by omega) (by omega) ?_
      refine o_assign ?_
      refine g_end (G.imp (hQ_ .normal _) ?_)
      clear hQ_ Q_
      try refine g_then ?_
      repeat (first | refine g_endt ?_ | refine g_end ?_ | refine g_then ?_ | refine g_in_normal ?_ | refine g_then_ret ?_ | refine g_in_ret ?_ | refine g_then_exit ?_ | refine g_in_exit rfl ?_ | refine g_in_exit_ne (by decide) ?_ | refine g_seq ?_ | refine g_region ?_ | refine g_block ?_ | refine g_ret ?_ | refine g_return_n ?_ | refine g_exit ?_ | refine g_skip ?_)
      exact g_meets ⟨(k + 1, (U2, u2), (W, w)), hkt⟩ (by show ts.length - (k + 1) < ts.length - k; omega) (Sat.mem ⟨rfl, rfl, (show Value.slice U2 (ss.length + 1) u2 = Value.slice U2 (stayD want (ts.take (k + 1))).length u2 by rw [hs1, List.length_append]; rfl), rfl, rfl, rfl, trivial⟩)
    | false =>
      rw [hb, if_neg (by decide), List.append_nil] at hs1
      rw [hb, if_neg (by decide)] at hg1
      first | refine g_seq (g_cond_f rfl (by first | rfl | (simp; done) | (simp; omega) | (simp; assumption)) ?_) | refine g_cond_f rfl (by first | rfl | (simp; done) | (simp; omega) | (simp; assumption)) ?_
      repeat (first | refine g_endt ?_ | refine g_end ?_ | refine g_then ?_ | refine g_in_normal ?_ | refine g_then_ret ?_ | refine g_in_ret ?_ | refine g_then_exit ?_ | refine g_in_exit rfl ?_ | refine g_in_exit_ne (by decide) ?_ | refine g_seq ?_ | refine g_region ?_ | refine g_block ?_ | refine g_ret ?_ | refine g_return_n ?_ | refine g_exit ?_ | refine g_skip ?_)
      refine g_hideR fun Q_ hQ_ => ?_
      refine o_move ?_
      refine o_move ?_
      refine o_nil rfl ?_
      first | refine o_field rfl ?_ | refine o_fieldR rfl (by omega) ?_
      refine o_load1 (v := .slice Lr ts.length cr) rfl rfl ?_
      refine o_move ?_
      refine o_indexR (ys := ts) (i := k) rfl rfl rfl hkt rfl rfl ?_
      refine o_loadE (ys := ts) rfl rfl ho ?_
      refine o_litP (e := 25) encE [o] (o).val.cells (fun w => by kernel_rfl) (by simp [encE]) (by simp [maxLen]) fun _ => ?_
      refine o_append (xs := gs) (ys := [o]) (by first | rfl | (simp only [List.length_map, List.length_take, List.length_append]; first | rfl | (congr 1; omega))) rfl rfl rfl rfl (fun _ => .inr trivial) (by simp [maxLen]; omega) (by simp; omega) fun W2 w2 => ?_
      refine o_assign ?_
      refine g_end (G.imp (hQ_ .normal _) ?_)
      clear hQ_ Q_
      try refine g_then ?_
      rw [← hs1, ← hg1]
      repeat (first | refine g_endt ?_ | refine g_end ?_ | refine g_then ?_ | refine g_in_normal ?_ | refine g_then_ret ?_ | refine g_in_ret ?_ | refine g_then_exit ?_ | refine g_in_exit rfl ?_ | refine g_in_exit_ne (by decide) ?_ | refine g_seq ?_ | refine g_region ?_ | refine g_block ?_ | refine g_ret ?_ | refine g_return_n ?_ | refine g_exit ?_ | refine g_skip ?_)
      repeat (first | refine g_endt ?_ | refine g_end ?_ | refine g_then ?_ | refine g_in_normal ?_ | refine g_then_ret ?_ | refine g_in_ret ?_ | refine g_then_exit ?_ | refine g_in_exit rfl ?_ | refine g_in_exit_ne (by decide) ?_ | refine g_seq ?_ | refine g_region ?_ | refine g_block ?_ | refine g_ret ?_ | refine g_return_n ?_ | refine g_exit ?_ | refine g_skip ?_)
      refine g_hideR fun Q_ hQ_ => ?_
      refine o_move ?_
      refine o_add (c := ((k + 1 : Nat) : Int)) rfl rfl (by omega) (by omega) (by omega) ?_
      refine o_assign ?_
      refine g_end (G.imp (hQ_ .normal _) ?_)
      clear hQ_ Q_
      try refine g_then ?_
      repeat (first | refine g_endt ?_ | refine g_end ?_ | refine g_then ?_ | refine g_in_normal ?_ | refine g_then_ret ?_ | refine g_in_ret ?_ | refine g_then_exit ?_ | refine g_in_exit rfl ?_ | refine g_in_exit_ne (by decide) ?_ | refine g_seq ?_ | refine g_region ?_ | refine g_block ?_ | refine g_ret ?_ | refine g_return_n ?_ | refine g_exit ?_ | refine g_skip ?_)
      exact g_meets ⟨(k + 1, (U, u), (W2, w2)), hkt⟩ (by show ts.length - (k + 1) < ts.length - k; omega) (Sat.mem ⟨rfl, rfl, rfl, (show Value.slice W2 (gs.length + 1) w2 = Value.slice W2 (goneD want (ts.take (k + 1))).length w2 by rw [hg1, List.length_append]; rfl), rfl, rfl, trivial⟩)
  first | refine g_seq (g_cond_f rfl (by simp; omega) ?_) | refine g_cond_f rfl (by simp; omega) ?_
  rw [show ts.take k = ts from List.take_of_length_le (by omega)] at hsl hgl ⊢
  generalize stayD want ts = ss at hsl ⊢
  generalize goneD want ts = gs at hgl ⊢
  repeat (first | refine g_endt ?_ | refine g_end ?_ | refine g_then ?_ | refine g_in_normal ?_ | refine g_then_ret ?_ | refine g_in_ret ?_ | refine g_then_exit ?_ | refine g_in_exit rfl ?_ | refine g_in_exit_ne (by decide) ?_ | refine g_seq ?_ | refine g_region ?_ | refine g_block ?_ | refine g_ret ?_ | refine g_return_n ?_ | refine g_exit ?_ | refine g_skip ?_)
  refine g_hideR fun Q_ hQ_ => ?_
  refine o_assign ?_
  refine g_end (G.imp (hQ_ .normal _) ?_)
  clear hQ_ Q_
  try refine g_then ?_
  refine G.nil_slice 25 encE 12 ?_
  repeat (first | refine g_endt ?_ | refine g_end ?_ | refine g_then ?_ | refine g_in_normal ?_ | refine g_then_ret ?_ | refine g_in_ret ?_ | refine g_then_exit ?_ | refine g_in_exit rfl ?_ | refine g_in_exit_ne (by decide) ?_ | refine g_seq ?_ | refine g_region ?_ | refine g_block ?_ | refine g_ret ?_ | refine g_return_n ?_ | refine g_exit ?_ | refine g_skip ?_)
  refine g_loop (σ := {t : Nat × (Option Addr × Nat) // t.1 ≤ want.length}) (S := fun t => [(0, .pointer (some ⟨r, 0, none⟩)), (1, .slice T want.length d), (8, .slice U ss.length u), (9, .slice W gs.length w), (10, .slice t.1.2.1 (tagD next (freshD (want.take t.1.1) ts)).length t.1.2.2), (12, .int .i64 (t.1.1 : Int))])
    (H := fun t => [oE t.1.2.1 t.1.2.2 (tagD next (freshD (want.take t.1.1) ts)), oE U u ss, oE W w gs, rfC r room (nxD next (freshD (want.take t.1.1) ts).length) Lr ts.length cr, psl encE 12 Lr ts, psl encE 12 T want, psl encE 12 A l]) (μ := fun t => want.length - t.1.1) (s0 := ⟨(0, (none, 0)), Nat.zero_le _⟩) (Sat.mem ⟨rfl, rfl, rfl, rfl, rfl, rfl, trivial⟩)
    (t := (inferInstance : Take _ [oE none 0 [], oE U u ss, oE W w gs, rfC r room next Lr ts.length cr, psl encE 12 Lr ts, psl encE 12 T want, psl encE 12 A l] _)) ?_
  rintro ⟨⟨j, ⟨V, v⟩⟩, hj⟩ ρ3
  dsimp only at hj ⊢
  rw [nxD_eq]
  have htj : (want.take j).length ≤ j := by simp; omega
  have hfl : (freshD (want.take j) ts).length ≤ (want.take j).length := List.length_filter_le _ _
  have htl := tagD_len next (freshD (want.take j) ts)
  obtain ⟨nk, hnk⟩ : ∃ nk : Int, next + ((freshD (want.take j) ts).length : Int) = nk := ⟨_, rfl⟩
  rw [hnk]
  repeat (first | refine g_endt ?_ | refine g_end ?_ | refine g_then ?_ | refine g_in_normal ?_ | refine g_then_ret ?_ | refine g_in_ret ?_ | refine g_then_exit ?_ | refine g_in_exit rfl ?_ | refine g_in_exit_ne (by decide) ?_ | refine g_seq ?_ | refine g_region ?_ | refine g_block ?_ | refine g_ret ?_ | refine g_return_n ?_ | refine g_exit ?_ | refine g_skip ?_)
  refine g_hideR fun Q_ hQ_ => ?_
  refine o_move ?_
  refine o_move ?_
  refine o_len rfl rfl ?_
  refine o_lss rfl rfl ?_
  refine g_end (G.imp (hQ_ .normal _) ?_)
  clear hQ_ Q_
  try refine g_then ?_
  by_cases hjw : j < want.length
  · first | refine g_seq (g_cond_t rfl (by first | rfl | (simp; done) | (simp; omega) | (simp; assumption)) ?_) | refine g_cond_t rfl (by first | rfl | (simp; done) | (simp; omega) | (simp; assumption)) ?_
    obtain ⟨x, hx⟩ : ∃ x, want[j]? = some x := ⟨_, List.getElem?_eq_getElem hjw⟩
    have htj1 : want.take (j + 1) = want.take j ++ [x] := by rw [List.take_add_one, hx]; rfl
    have hf1 := fresh_snoc (want.take j) ts x
    rw [← htj1] at hf1
    have hts2 := tagD_snoc next (freshD (want.take j) ts) x
    rw [hnk] at hts2
    obtain ⟨ad, had⟩ : ∃ ad, tagD next (freshD (want.take j) ts) = ad := ⟨_, rfl⟩
    rw [had] at hts2 htl ⊢
    repeat (first | refine g_endt ?_ | refine g_end ?_ | refine g_then ?_ | refine g_in_normal ?_ | refine g_then_ret ?_ | refine g_in_ret ?_ | refine g_then_exit ?_ | refine g_in_exit rfl ?_ | refine g_in_exit_ne (by decide) ?_ | refine g_seq ?_ | refine g_region ?_ | refine g_block ?_ | refine g_ret ?_ | refine g_return_n ?_ | refine g_exit ?_ | refine g_skip ?_)
    refine g_hide fun Q_ hQ_ => ?_
    refine g_draw [] [0,1,2,3,4,5,6,7,8,9] [rfC r room nk Lr ts.length cr, psl encE 12 Lr ts, psl encE 12 T want] mixed rfl ?_
    refine ob_q rfl rfl ⟨_, fun X Q h => o_move (g_end (h _ _ ⟨rfl, rfl⟩)), ?_⟩
    refine ob_q rfl rfl ⟨_, fun X Q h => o_nil rfl (g_end (h _ _ ⟨rfl, rfl⟩)), ?_⟩
    first | refine ob_q rfl rfl ⟨_, fun X Q h => o_field rfl (g_end (h _ _ ⟨rfl, rfl⟩)), ?_⟩ | refine ob_q rfl rfl ⟨_, fun X Q h => o_fieldR rfl (by omega) (g_end (h _ _ ⟨rfl, rfl⟩)), ?_⟩
    refine ob_q rfl rfl ⟨_, fun X Q h => o_load1 (v := .slice Lr ts.length cr) rfl rfl (g_end (h _ _ ⟨rfl, rfl⟩)), ?_⟩
    refine ob_q rfl rfl ⟨_, fun X Q h => o_move (g_end (h _ _ ⟨rfl, rfl⟩)), ?_⟩
    refine ob_q rfl rfl ⟨_, fun X Q h => o_move (g_end (h _ _ ⟨rfl, rfl⟩)), ?_⟩
    refine ob_q rfl rfl ⟨_, fun X Q h => o_indexR (ys := want) (i := j) rfl rfl rfl hjw rfl rfl (g_end (h _ _ ⟨rfl, rfl⟩)), ?_⟩
    refine ob_q rfl rfl ⟨_, fun X Q h => o_loadE (ys := want) rfl rfl hx (g_end (h _ _ ⟨rfl, rfl⟩)), ?_⟩
    refine ob_q rfl rfl ⟨_, fun X Q h => o_callp (Stays_spec Lr ts.length cr ts x rfl (by omega)) rfl rfl <| by rintro _ _ ⟨rfl, rfl⟩; exact (g_end (h _ _ ⟨rfl, rfl⟩)), ?_⟩
    refine ob_q rfl rfl ⟨_, fun X Q h => o_not rfl (g_end (h _ _ ⟨rfl, rfl⟩)), ?_⟩
    refine ob_nil ?_
    refine G.imp (hQ_ .normal _) ?_
    clear hQ_ Q_
    try refine g_then ?_
    cases hb : staysD ts x with
    | true =>
      rw [hb, if_pos rfl, List.append_nil] at hf1
      first | refine g_seq (g_cond_f rfl (by first | rfl | (simp; done) | (simp; omega) | (simp; assumption)) ?_) | refine g_cond_f rfl (by first | rfl | (simp; done) | (simp; omega) | (simp; assumption)) ?_
      repeat (first | refine g_endt ?_ | refine g_end ?_ | refine g_then ?_ | refine g_in_normal ?_ | refine g_then_ret ?_ | refine g_in_ret ?_ | refine g_then_exit ?_ | refine g_in_exit rfl ?_ | refine g_in_exit_ne (by decide) ?_ | refine g_seq ?_ | refine g_region ?_ | refine g_block ?_ | refine g_ret ?_ | refine g_return_n ?_ | refine g_exit ?_ | refine g_skip ?_)
      repeat (first | refine g_endt ?_ | refine g_end ?_ | refine g_then ?_ | refine g_in_normal ?_ | refine g_then_ret ?_ | refine g_in_ret ?_ | refine g_then_exit ?_ | refine g_in_exit rfl ?_ | refine g_in_exit_ne (by decide) ?_ | refine g_seq ?_ | refine g_region ?_ | refine g_block ?_ | refine g_ret ?_ | refine g_return_n ?_ | refine g_exit ?_ | refine g_skip ?_)
      refine g_hideR fun Q_ hQ_ => ?_
      refine o_move ?_
      refine o_add (c := ((j + 1 : Nat) : Int)) rfl rfl (by omega) (by omega) (by omega) ?_
      refine o_assign ?_
      refine g_end (G.imp (hQ_ .normal _) ?_)
      clear hQ_ Q_
      try refine g_then ?_
      repeat (first | refine g_endt ?_ | refine g_end ?_ | refine g_then ?_ | refine g_in_normal ?_ | refine g_then_ret ?_ | refine g_in_ret ?_ | refine g_then_exit ?_ | refine g_in_exit rfl ?_ | refine g_in_exit_ne (by decide) ?_ | refine g_seq ?_ | refine g_region ?_ | refine g_block ?_ | refine g_ret ?_ | refine g_return_n ?_ | refine g_exit ?_ | refine g_skip ?_)
      exact g_meets ⟨(j + 1, (V, v)), hjw⟩ (by show want.length - (j + 1) < want.length - j; omega) (Sat.mem ⟨rfl, rfl, rfl, rfl, (show Value.slice V ad.length v = Value.slice V (tagD next (freshD (want.take (j + 1)) ts)).length v by rw [hf1, had]), rfl, trivial⟩) (t := by
        show Take _ [oE V v (tagD next (freshD (want.take (j + 1)) ts)), oE U u ss, oE W w gs, rfC r room (nxD next (freshD (want.take (j + 1)) ts).length) Lr ts.length cr, psl encE 12 Lr ts, psl encE 12 T want, psl encE 12 A l] _
        rw [hf1, nxD_eq, hnk, had]
        infer_instance)
    | false =>
      rw [hb, if_neg (by decide)] at hf1
      have hnk1 : nxD next (freshD (want.take (j + 1)) ts).length = nk + 1 := by rw [nxD_eq, hf1, List.length_append, ← hnk]; simp; omega
      obtain ⟨y, hy⟩ : ∃ y : ElemD, ({ x with tag := nk } : ElemD) = y := ⟨_, rfl⟩
      rw [hy] at hts2
      first | refine g_seq (g_cond_t rfl (by first | rfl | (simp; done) | (simp; omega) | (simp; assumption)) ?_) | refine g_cond_t rfl (by first | rfl | (simp; done) | (simp; omega) | (simp; assumption)) ?_
      repeat (first | refine g_endt ?_ | refine g_end ?_ | refine g_then ?_ | refine g_in_normal ?_ | refine g_then_ret ?_ | refine g_in_ret ?_ | refine g_then_exit ?_ | refine g_in_exit rfl ?_ | refine g_in_exit_ne (by decide) ?_ | refine g_seq ?_ | refine g_region ?_ | refine g_block ?_ | refine g_ret ?_ | refine g_return_n ?_ | refine g_exit ?_ | refine g_skip ?_)
      refine g_hideR fun Q_ hQ_ => ?_
      refine o_move ?_
      refine o_move ?_
      refine o_indexR (ys := want) (i := j) rfl rfl rfl hjw rfl rfl ?_
      refine o_loadE (ys := want) rfl rfl hx ?_
      refine o_alloc fun c13 => ?_
      refine o_store (v := x.val) rfl rfl rfl rfl rfl ?_
      refine g_end (G.imp (hQ_ .normal _) ?_)
      clear hQ_ Q_
      try refine g_then ?_
      refine G.norm c13 x.val.cells rfl ?_
      repeat (first | refine g_endt ?_ | refine g_end ?_ | refine g_then ?_ | refine g_in_normal ?_ | refine g_then_ret ?_ | refine g_in_ret ?_ | refine g_then_exit ?_ | refine g_in_exit rfl ?_ | refine g_in_exit_ne (by decide) ?_ | refine g_seq ?_ | refine g_region ?_ | refine g_block ?_ | refine g_ret ?_ | refine g_return_n ?_ | refine g_exit ?_ | refine g_skip ?_)
      refine g_hideR fun Q_ hQ_ => ?_
      refine o_move ?_
      refine o_nil rfl ?_
      first | refine o_field rfl ?_ | refine o_fieldR rfl (by omega) ?_
      refine o_load1 (v := .int .i64 nk) rfl rfl ?_
      first | refine o_field rfl ?_ | refine o_fieldR rfl (by omega) ?_
      refine o_store (v := .int .i64 nk) rfl rfl rfl rfl rfl ?_
      refine g_end (G.imp (hQ_ .normal _) ?_)
      clear hQ_ Q_
      try refine g_then ?_
      refine G.norm c13 ({ x with tag := nk } : ElemD).val.cells rfl ?_
      rw [hy]
      repeat (first | refine g_endt ?_ | refine g_end ?_ | refine g_then ?_ | refine g_in_normal ?_ | refine g_then_ret ?_ | refine g_in_ret ?_ | refine g_then_exit ?_ | refine g_in_exit rfl ?_ | refine g_in_exit_ne (by decide) ?_ | refine g_seq ?_ | refine g_region ?_ | refine g_block ?_ | refine g_ret ?_ | refine g_return_n ?_ | refine g_exit ?_ | refine g_skip ?_)
      refine g_hideR fun Q_ hQ_ => ?_
      refine o_move ?_
      refine o_nil rfl ?_
      first | refine o_field rfl ?_ | refine o_fieldR rfl (by omega) ?_
      refine o_load1 (v := .int .i64 nk) rfl rfl ?_
      refine o_add (c := nk + 1) rfl rfl rfl (by omega) (by omega) ?_
      refine o_nil rfl ?_
      first | refine o_field rfl ?_ | refine o_fieldR rfl (by omega) ?_
      refine o_store (v := .int .i64 (nk + 1)) rfl rfl rfl rfl rfl ?_
      refine g_end (G.imp (hQ_ .normal _) ?_)
      clear hQ_ Q_
      try refine g_then ?_
      refine G.norm r #[.int .i64 room, .int .i64 (nk + 1), .slice Lr ts.length cr] rfl ?_
      repeat (first | refine g_endt ?_ | refine g_end ?_ | refine g_then ?_ | refine g_in_normal ?_ | refine g_then_ret ?_ | refine g_in_ret ?_ | refine g_then_exit ?_ | refine g_in_exit rfl ?_ | refine g_in_exit_ne (by decide) ?_ | refine g_seq ?_ | refine g_region ?_ | refine g_block ?_ | refine g_ret ?_ | refine g_return_n ?_ | refine g_exit ?_ | refine g_skip ?_)
      refine g_hideR fun Q_ hQ_ => ?_
      refine o_move ?_
      refine o_loadN (v := y.val) rfl rfl rfl ?_
      refine o_litP (e := 25) encE [y] (y).val.cells (fun w => by kernel_rfl) (by simp [encE]) (by simp [maxLen]) fun _ => ?_
      refine o_append (xs := ad) (ys := [y]) (by first | rfl | (simp only [List.length_map, List.length_take, List.length_append]; first | rfl | (congr 1; omega))) rfl rfl rfl rfl (fun _ => .inr trivial) (by simp [maxLen]; omega) (by simp; omega) fun V2 v2 => ?_
      refine o_assign ?_
      refine g_end (G.imp (hQ_ .normal _) ?_)
      clear hQ_ Q_
      try refine g_then ?_
      rw [← hts2]
      repeat (first | refine g_endt ?_ | refine g_end ?_ | refine g_then ?_ | refine g_in_normal ?_ | refine g_then_ret ?_ | refine g_in_ret ?_ | refine g_then_exit ?_ | refine g_in_exit rfl ?_ | refine g_in_exit_ne (by decide) ?_ | refine g_seq ?_ | refine g_region ?_ | refine g_block ?_ | refine g_ret ?_ | refine g_return_n ?_ | refine g_exit ?_ | refine g_skip ?_)
      repeat (first | refine g_endt ?_ | refine g_end ?_ | refine g_then ?_ | refine g_in_normal ?_ | refine g_then_ret ?_ | refine g_in_ret ?_ | refine g_then_exit ?_ | refine g_in_exit rfl ?_ | refine g_in_exit_ne (by decide) ?_ | refine g_seq ?_ | refine g_region ?_ | refine g_block ?_ | refine g_ret ?_ | refine g_return_n ?_ | refine g_exit ?_ | refine g_skip ?_)
      refine g_hideR fun Q_ hQ_ => ?_
      refine o_move ?_
      refine o_add (c := ((j + 1 : Nat) : Int)) rfl rfl (by omega) (by omega) (by omega) ?_
      refine o_assign ?_
      refine g_end (G.imp (hQ_ .normal _) ?_)
      clear hQ_ Q_
      try refine g_then ?_
      repeat (first | refine g_endt ?_ | refine g_end ?_ | refine g_then ?_ | refine g_in_normal ?_ | refine g_then_ret ?_ | refine g_in_ret ?_ | refine g_then_exit ?_ | refine g_in_exit rfl ?_ | refine g_in_exit_ne (by decide) ?_ | refine g_seq ?_ | refine g_region ?_ | refine g_block ?_ | refine g_ret ?_ | refine g_return_n ?_ | refine g_exit ?_ | refine g_skip ?_)
      exact g_meets ⟨(j + 1, (V2, v2)), hjw⟩ (by show want.length - (j + 1) < want.length - j; omega) (Sat.mem ⟨rfl, rfl, rfl, rfl, (show Value.slice V2 (ad.length + 1) v2 = Value.slice V2 (tagD next (freshD (want.take (j + 1)) ts)).length v2 by rw [hf1, hts2, List.length_append]; rfl), rfl, trivial⟩) (t := by
        show Take _ [oE V2 v2 (tagD next (freshD (want.take (j + 1)) ts)), oE U u ss, oE W w gs, rfC r room (nxD next (freshD (want.take (j + 1)) ts).length) Lr ts.length cr, psl encE 12 Lr ts, psl encE 12 T want, psl encE 12 A l] _
        rw [hnk1, hf1]
        infer_instance)
  first | refine g_seq (g_cond_f rfl (by simp; omega) ?_) | refine g_cond_f rfl (by simp; omega) ?_
  rw [show want.take j = want from List.take_of_length_le (by omega)] at hnk htl hfl ⊢
  obtain ⟨ad, had⟩ : ∃ ad, tagD next (freshD want ts) = ad := ⟨_, rfl⟩
  rw [hnk]
  rw [had] at htl ⊢
  refine G.bring [oE V v ad] ?_
  refine G.frz ?_
  refine G.bring [oE W w gs] ?_
  refine G.frz ?_
  repeat (first | refine g_endt ?_ | refine g_end ?_ | refine g_then ?_ | refine g_in_normal ?_ | refine g_then_ret ?_ | refine g_in_ret ?_ | refine g_then_exit ?_ | refine g_in_exit rfl ?_ | refine g_in_exit_ne (by decide) ?_ | refine g_seq ?_ | refine g_region ?_ | refine g_block ?_ | refine g_ret ?_ | refine g_return_n ?_ | refine g_exit ?_ | refine g_skip ?_)
  refine g_hideR fun Q_ hQ_ => ?_
  refine o_move ?_
  refine o_move ?_
  refine o_move ?_
  refine o_append (xs := ss) (ys := ad) rfl rfl rfl rfl rfl (fun _ => .inr trivial) (by simp only [maxLen]; omega) (by omega) fun L2 c2 => ?_
  refine o_nil rfl ?_
  first | refine o_field rfl ?_ | refine o_fieldR rfl (by omega) ?_
  refine o_store (v := .slice L2 (ss.length + ad.length) c2) rfl rfl rfl rfl rfl ?_
  refine g_end (G.imp (hQ_ .normal _) ?_)
  clear hQ_ Q_
  try refine g_then ?_
  refine G.norm r #[.int .i64 room, .int .i64 nk, .slice L2 (ss.length + ad.length) c2] rfl ?_
  refine G.bring [oE L2 c2 (ss ++ ad)] ?_
  refine G.frz ?_
  refine shutRf r room nk (ss ++ ad) L2 (ss.length + ad.length) c2 (List.length_append) ?_
  repeat (first | refine g_endt ?_ | refine g_end ?_ | refine g_then ?_ | refine g_in_normal ?_ | refine g_then_ret ?_ | refine g_in_ret ?_ | refine g_then_exit ?_ | refine g_in_exit rfl ?_ | refine g_in_exit_ne (by decide) ?_ | refine g_seq ?_ | refine g_region ?_ | refine g_block ?_ | refine g_ret ?_ | refine g_return_n ?_ | refine g_exit ?_ | refine g_skip ?_)
  refine g_hideR fun Q_ hQ_ => ?_
  refine o_move ?_
  refine o_move ?_
  refine o_assign ?_
  refine o_assign ?_
  refine o_assign ?_
  refine g_end (G.imp (hQ_ .normal _) ?_)
  clear hQ_ Q_
  try refine g_then ?_
  repeat (first | refine g_endt ?_ | refine g_end ?_ | refine g_then ?_ | refine g_in_normal ?_ | refine g_then_ret ?_ | refine g_in_ret ?_ | refine g_then_exit ?_ | refine g_in_exit rfl ?_ | refine g_in_exit_ne (by decide) ?_ | refine g_seq ?_ | refine g_region ?_ | refine g_block ?_ | refine g_ret ?_ | refine g_return_n ?_ | refine g_exit ?_ | refine g_skip ?_)
  exact ret3 (K := [RefP r room nk (ss ++ ad), psl encE 12 V ad, psl encE 12 W gs, psl encE 12 A l]) rfl (resT rfl) (resT rfl) (resT rfl) ⟨V, v, W, w, rfl, rfl⟩
end Go.Proofs.Ytdpbjoldgiikkaa
/- Are elements few, and their texts short? -/
namespace Go.Proofs.Ytdpbjoldgiikkaa
open Go Go.Sl
attribute [local irreducible] Code.wpIn roundPost bodyPostM runL Ret Meets Begin

/-- Are the texts of an element short? -/
def shortE (e : ElemD) : Bool := decide (e.id.text.size ≤ 100) && decide (e.attr.text.size ≤ 100) && decide (e.value.text.size ≤ 100)
def lightE (l : List ElemD) (most : Nat) : Bool := decide (l.length ≤ most) && l.all shortE
theorem light_spec (A : Option Addr) (n c most : Nat) (l : List ElemD) (hl : l.length = n) (hm : n ≤ 9223372036854775807) (hk : most ≤ 1000000) : Ctr Try.prog 9 [.slice A n c, .int .i64 (most : Int)] [psl encE 12 A l] (fun v M => v = .bool (lightE l most) ∧ M = []) := by
  refine spec_of Try.func9 rfl Try.ntmps9 rfl fun w0 F => ?_
  -- ponder/ponderlaw10.light
  repeat (first | refine g_endt ?_ | refine g_end ?_ | refine g_then ?_ | refine g_in_normal ?_ | refine g_then_ret ?_ | refine g_in_ret ?_ | refine g_then_exit ?_ | refine g_in_exit rfl ?_ | refine g_in_exit_ne (by decide) ?_ | refine g_seq ?_ | refine g_region ?_ | refine g_block ?_ | refine g_ret ?_ | refine g_return_n ?_ | refine g_exit ?_ | refine g_skip ?_)
  refine o_assign ?_
  first | refine g_endt ?_ | refine g_end ?_
  repeat (first | refine g_endt ?_ | refine g_end ?_ | refine g_then ?_ | refine g_in_normal ?_ | refine g_then_ret ?_ | refine g_in_ret ?_ | refine g_then_exit ?_ | refine g_in_exit rfl ?_ | refine g_in_exit_ne (by decide) ?_ | refine g_seq ?_ | refine g_region ?_ | refine g_block ?_ | refine g_ret ?_ | refine g_return_n ?_ | refine g_exit ?_ | refine g_skip ?_)
  refine o_move ?_
  refine o_len rfl rfl ?_
  refine o_move ?_
  refine o_gtr rfl rfl ?_
  first | refine g_endt ?_ | refine g_end ?_
  by_cases h1 : most < n
  · first | refine g_seq (g_cond_t rfl (by first | rfl | (simp; done) | (simp; omega) | (simp; assumption)) ?_) | refine g_cond_t rfl (by first | rfl | (simp; done) | (simp; omega) | (simp; assumption)) ?_
    repeat (first | refine g_endt ?_ | refine g_end ?_ | refine g_then ?_ | refine g_in_normal ?_ | refine g_then_ret ?_ | refine g_in_ret ?_ | refine g_then_exit ?_ | refine g_in_exit rfl ?_ | refine g_in_exit_ne (by decide) ?_ | refine g_seq ?_ | refine g_region ?_ | refine g_block ?_ | refine g_ret ?_ | refine g_return_n ?_ | refine g_exit ?_ | refine g_skip ?_)
    refine o_assign ?_
    first | refine g_endt ?_ | refine g_end ?_
    repeat (first | refine g_endt ?_ | refine g_end ?_ | refine g_then ?_ | refine g_in_normal ?_ | refine g_then_ret ?_ | refine g_in_ret ?_ | refine g_then_exit ?_ | refine g_in_exit rfl ?_ | refine g_in_exit_ne (by decide) ?_ | refine g_seq ?_ | refine g_region ?_ | refine g_block ?_ | refine g_ret ?_ | refine g_return_n ?_ | refine g_exit ?_ | refine g_skip ?_)
    exact ret1 (K := []) rfl (resT (v := .bool false) rfl) ⟨by rw [lightE, decide_eq_false (by omega), Bool.false_and], rfl⟩
  first | refine g_seq (g_cond_f rfl (by simp; omega) ?_) | refine g_cond_f rfl (by simp; omega) ?_
  repeat (first | refine g_endt ?_ | refine g_end ?_ | refine g_then ?_ | refine g_in_normal ?_ | refine g_then_ret ?_ | refine g_in_ret ?_ | refine g_then_exit ?_ | refine g_in_exit rfl ?_ | refine g_in_exit_ne (by decide) ?_ | refine g_seq ?_ | refine g_region ?_ | refine g_block ?_ | refine g_ret ?_ | refine g_return_n ?_ | refine g_exit ?_ | refine g_skip ?_)
  refine o_assign ?_
  first | refine g_endt ?_ | refine g_end ?_
  repeat (first | refine g_endt ?_ | refine g_end ?_ | refine g_then ?_ | refine g_in_normal ?_ | refine g_then_ret ?_ | refine g_in_ret ?_ | refine g_then_exit ?_ | refine g_in_exit rfl ?_ | refine g_in_exit_ne (by decide) ?_ | refine g_seq ?_ | refine g_region ?_ | refine g_block ?_ | refine g_ret ?_ | refine g_return_n ?_ | refine g_exit ?_ | refine g_skip ?_)
  refine g_loop (σ := {i : Nat // i ≤ n ∧ ∀ (j : Nat) (y : ElemD), j < i → l[j]? = some y → shortE y = true}) (S := fun i => [(0, .slice A n c), (5, .int .i64 (i.1 : Int))]) (H := fun _ => [psl encE 12 A l]) (μ := fun i => n - i.1)
    (s0 := ⟨0, Nat.zero_le _, fun j y hj => absurd hj (Nat.not_lt_zero j)⟩) (Sat.mem ⟨rfl, rfl, trivial⟩) ?_
  rintro ⟨i, hi, hb⟩ ρ2
  dsimp only at hi hb ⊢
  repeat (first | refine g_endt ?_ | refine g_end ?_ | refine g_then ?_ | refine g_in_normal ?_ | refine g_then_ret ?_ | refine g_in_ret ?_ | refine g_then_exit ?_ | refine g_in_exit rfl ?_ | refine g_in_exit_ne (by decide) ?_ | refine g_seq ?_ | refine g_region ?_ | refine g_block ?_ | refine g_ret ?_ | refine g_return_n ?_ | refine g_exit ?_ | refine g_skip ?_)
  refine o_move ?_
  refine o_move ?_
  refine o_len rfl rfl ?_
  refine o_lss rfl rfl ?_
  first | refine g_endt ?_ | refine g_end ?_
  by_cases h : i < n
  · first | refine g_seq (g_cond_t rfl (by first | rfl | (simp; done) | (simp; omega) | (simp; assumption)) ?_) | refine g_cond_t rfl (by first | rfl | (simp; done) | (simp; omega) | (simp; assumption)) ?_
    obtain ⟨y, hy⟩ : ∃ y, l[i]? = some y := ⟨_, List.getElem?_eq_getElem (by omega)⟩
    have hil : i < l.length := by omega
    have hpos : 0 < l.length := by omega
    repeat (first | refine g_endt ?_ | refine g_end ?_ | refine g_then ?_ | refine g_in_normal ?_ | refine g_then_ret ?_ | refine g_in_ret ?_ | refine g_then_exit ?_ | refine g_in_exit rfl ?_ | refine g_in_exit_ne (by decide) ?_ | refine g_seq ?_ | refine g_block ?_ | refine g_ret ?_ | refine g_return_n ?_ | refine g_exit ?_ | refine g_skip ?_)
    refine g_cutk (σ := Unit) (ds' := []) (S := fun _ => [(0, .slice A n c), (5, .int .i64 (i : Int)), (43, .bool (!shortE y))]) (H := fun _ => [psl encE 12 A l]) (ok := fun _ => True) ?_ ?_
    · skip
      repeat (first | refine g_endt ?_ | refine g_end ?_ | refine g_then ?_ | refine g_in_normal ?_ | refine g_then_ret ?_ | refine g_in_ret ?_ | refine g_then_exit ?_ | refine g_in_exit rfl ?_ | refine g_in_exit_ne (by decide) ?_ | refine g_seq ?_ | refine g_region ?_ | refine g_block ?_ | refine g_ret ?_ | refine g_return_n ?_ | refine g_exit ?_ | refine g_skip ?_)
      refine o_move ?_
      refine o_move ?_
      refine o_indexR (ys := l) (i := i) rfl rfl rfl hil hl rfl ?_
      refine o_fieldR rfl hpos ?_
      refine o_fieldR rfl hpos ?_
      refine o_loadE1 (off := 1) (ys := l) (v := .string y.id.text) rfl hy rfl ?_
      refine o_slen rfl rfl (by kernel_rfl) ?_
      refine o_gtr rfl rfl ?_
      refine o_moveB rfl (fun h8 => ?_) (fun h8 => ?_)
      · refine o_unwanted rfl rfl rfl rfl rfl ?_
        refine o_unwanted rfl rfl rfl rfl rfl ?_
        refine o_unwanted rfl rfl rfl rfl rfl ?_
        refine o_unwanted rfl rfl rfl rfl rfl ?_
        refine o_unwanted rfl rfl rfl rfl rfl ?_
        refine o_unwanted rfl rfl rfl rfl rfl ?_
        refine o_unwanted rfl rfl rfl rfl rfl ?_
        refine o_unwanted rfl rfl rfl rfl rfl ?_
        refine o_pick_t rfl rfl ?_
        refine o_move ?_
        refine o_unwanted rfl rfl rfl rfl rfl ?_
        refine o_unwanted rfl rfl rfl rfl rfl ?_
        refine o_unwanted rfl rfl rfl rfl rfl ?_
        refine o_unwanted rfl rfl rfl rfl rfl ?_
        refine o_unwanted rfl rfl rfl rfl rfl ?_
        refine o_unwanted rfl rfl rfl rfl rfl ?_
        refine o_unwanted rfl rfl rfl rfl rfl ?_
        refine o_unwanted rfl rfl rfl rfl rfl ?_
        refine o_pick_t rfl rfl ?_
        first | refine g_endt ?_ | refine g_end ?_
        refine g_meets () trivial (Sat.mem ⟨rfl, rfl, congrArg Value.bool ?_, trivial⟩)
        ((try (simp only [decide_eq_true_eq, decide_eq_false_iff_not, ge_iff_le, gt_iff_lt] at *)); unfold shortE; generalize y.id.text.size = m1 at *; generalize y.attr.text.size = m2 at *; generalize y.value.text.size = m3 at *; rw [Bool.eq_iff_iff]; simp <;> omega)
      · refine o_want rfl rfl rfl rfl rfl <| o_move ?_
        refine o_want rfl rfl rfl rfl rfl <| o_move ?_
        refine o_want rfl rfl rfl rfl rfl <| o_indexR (ys := l) (i := i) rfl rfl rfl hil hl rfl ?_
        refine o_want rfl rfl rfl rfl rfl <| o_fieldR rfl hpos ?_
        refine o_want rfl rfl rfl rfl rfl <| o_fieldR rfl hpos ?_
        refine o_want rfl rfl rfl rfl rfl <| o_loadE1 (off := 4) (ys := l) (v := .string y.attr.text) rfl hy rfl ?_
        refine o_want rfl rfl rfl rfl rfl <| o_slen rfl rfl (by kernel_rfl) ?_
        refine o_want rfl rfl rfl rfl rfl <| o_gtr rfl rfl ?_
        refine o_pick_f rfl rfl ?_
        refine o_moveB rfl (fun h18 => ?_) (fun h18 => ?_)
        · refine o_unwanted rfl rfl rfl rfl rfl ?_
          refine o_unwanted rfl rfl rfl rfl rfl ?_
          refine o_unwanted rfl rfl rfl rfl rfl ?_
          refine o_unwanted rfl rfl rfl rfl rfl ?_
          refine o_unwanted rfl rfl rfl rfl rfl ?_
          refine o_unwanted rfl rfl rfl rfl rfl ?_
          refine o_unwanted rfl rfl rfl rfl rfl ?_
          refine o_unwanted rfl rfl rfl rfl rfl ?_
          refine o_pick_t rfl rfl ?_
          first | refine g_endt ?_ | refine g_end ?_
          refine g_meets () trivial (Sat.mem ⟨rfl, rfl, congrArg Value.bool ?_, trivial⟩)
          ((try (simp only [decide_eq_true_eq, decide_eq_false_iff_not, ge_iff_le, gt_iff_lt] at *)); unfold shortE; generalize y.id.text.size = m1 at *; generalize y.attr.text.size = m2 at *; generalize y.value.text.size = m3 at *; rw [Bool.eq_iff_iff]; simp <;> omega)
        · refine o_want rfl rfl rfl rfl rfl <| o_move ?_
          refine o_want rfl rfl rfl rfl rfl <| o_move ?_
          refine o_want rfl rfl rfl rfl rfl <| o_indexR (ys := l) (i := i) rfl rfl rfl hil hl rfl ?_
          refine o_want rfl rfl rfl rfl rfl <| o_fieldR rfl hpos ?_
          refine o_want rfl rfl rfl rfl rfl <| o_fieldR rfl hpos ?_
          refine o_want rfl rfl rfl rfl rfl <| o_loadE1 (off := 7) (ys := l) (v := .string y.value.text) rfl hy rfl ?_
          refine o_want rfl rfl rfl rfl rfl <| o_slen rfl rfl (by kernel_rfl) ?_
          refine o_want rfl rfl rfl rfl rfl <| o_gtr rfl rfl ?_
          refine o_pick_f rfl rfl ?_
          first | refine g_endt ?_ | refine g_end ?_
          refine g_meets () trivial (Sat.mem ⟨rfl, rfl, congrArg Value.bool ?_, trivial⟩)
          ((try (simp only [decide_eq_true_eq, decide_eq_false_iff_not, ge_iff_le, gt_iff_lt] at *)); unfold shortE; generalize y.id.text.size = m1 at *; generalize y.attr.text.size = m2 at *; generalize y.value.text.size = m3 at *; rw [Bool.eq_iff_iff]; simp <;> omega)
    intro _ ρ3 _
    cases hc : shortE y with
    | false =>
      first | refine g_seq (g_cond_t rfl (by first | rfl | (simp; done) | (simp; omega) | (simp; assumption)) ?_) | refine g_cond_t rfl (by first | rfl | (simp; done) | (simp; omega) | (simp; assumption)) ?_
      repeat (first | refine g_endt ?_ | refine g_end ?_ | refine g_then ?_ | refine g_in_normal ?_ | refine g_then_ret ?_ | refine g_in_ret ?_ | refine g_then_exit ?_ | refine g_in_exit rfl ?_ | refine g_in_exit_ne (by decide) ?_ | refine g_seq ?_ | refine g_region ?_ | refine g_block ?_ | refine g_ret ?_ | refine g_return_n ?_ | refine g_exit ?_ | refine g_skip ?_)
      refine o_assign ?_
      first | refine g_endt ?_ | refine g_end ?_
      repeat (first | refine g_endt ?_ | refine g_end ?_ | refine g_then ?_ | refine g_in_normal ?_ | refine g_then_ret ?_ | refine g_in_ret ?_ | refine g_then_exit ?_ | refine g_in_exit rfl ?_ | refine g_in_exit_ne (by decide) ?_ | refine g_seq ?_ | refine g_region ?_ | refine g_block ?_ | refine g_ret ?_ | refine g_return_n ?_ | refine g_exit ?_ | refine g_skip ?_)
      exact ret1 (K := []) rfl (resT (v := .bool false) rfl) ⟨by
        rw [lightE, show l.all shortE = false from List.all_eq_false.2 ⟨y, List.mem_of_getElem? hy, by rw [hc]; simp⟩, Bool.and_false], rfl⟩
    | true =>
      first | refine g_seq (g_cond_f rfl (by first | rfl | (simp; done) | (simp; omega) | (simp; assumption)) ?_) | refine g_cond_f rfl (by first | rfl | (simp; done) | (simp; omega) | (simp; assumption)) ?_
      repeat (first | refine g_endt ?_ | refine g_end ?_ | refine g_then ?_ | refine g_in_normal ?_ | refine g_then_ret ?_ | refine g_in_ret ?_ | refine g_then_exit ?_ | refine g_in_exit rfl ?_ | refine g_in_exit_ne (by decide) ?_ | refine g_seq ?_ | refine g_region ?_ | refine g_block ?_ | refine g_ret ?_ | refine g_return_n ?_ | refine g_exit ?_ | refine g_skip ?_)
      refine o_move ?_
      refine o_add (c := ((i + 1 : Nat) : Int)) rfl rfl (by omega) (by omega) (by omega) ?_
      refine o_assign ?_
      first | refine g_endt ?_ | refine g_end ?_
      repeat (first | refine g_endt ?_ | refine g_end ?_ | refine g_then ?_ | refine g_in_normal ?_ | refine g_then_ret ?_ | refine g_in_ret ?_ | refine g_then_exit ?_ | refine g_in_exit rfl ?_ | refine g_in_exit_ne (by decide) ?_ | refine g_seq ?_ | refine g_region ?_ | refine g_block ?_ | refine g_ret ?_ | refine g_return_n ?_ | refine g_exit ?_ | refine g_skip ?_)
      have hn : ∀ (j : Nat) (z : ElemD), j < i + 1 → l[j]? = some z → shortE z = true := fun j z hj hz => by
        by_cases e : j = i
        · subst e; rw [hy] at hz; cases hz; exact hc
        · exact hb j z (by omega) hz
      exact g_meets (⟨i + 1, h, hn⟩) (by first | exact trivial | (dsimp only; omega)) (Sat.mem (by repeat (first | exact trivial | refine And.intro rfl ?_)))
  · first | refine g_seq (g_cond_f rfl (by simp; omega) ?_) | refine g_cond_f rfl (by simp; omega) ?_
    repeat (first | refine g_endt ?_ | refine g_end ?_ | refine g_then ?_ | refine g_in_normal ?_ | refine g_then_ret ?_ | refine g_in_ret ?_ | refine g_then_exit ?_ | refine g_in_exit rfl ?_ | refine g_in_exit_ne (by decide) ?_ | refine g_seq ?_ | refine g_region ?_ | refine g_block ?_ | refine g_ret ?_ | refine g_return_n ?_ | refine g_exit ?_ | refine g_skip ?_)
    refine o_assign ?_
    first | refine g_endt ?_ | refine g_end ?_
    repeat (first | refine g_endt ?_ | refine g_end ?_ | refine g_then ?_ | refine g_in_normal ?_ | refine g_then_ret ?_ | refine g_in_ret ?_ | refine g_then_exit ?_ | refine g_in_exit rfl ?_ | refine g_in_exit_ne (by decide) ?_ | refine g_seq ?_ | refine g_region ?_ | refine g_block ?_ | refine g_ret ?_ | refine g_return_n ?_ | refine g_exit ?_ | refine g_skip ?_)
    exact ret1 (K := []) rfl (resT (v := .bool true) rfl) ⟨by
      rw [lightE, decide_eq_true (by omega), Bool.true_and, List.all_eq_true.2 fun y hy => ?_]
      obtain ⟨j, hj⟩ := List.mem_iff_getElem?.1 hy
      exact hb j y (by have := (List.getElem?_eq_some_iff.1 hj).1; omega) hj, rfl⟩
end Go.Proofs.Ytdpbjoldgiikkaa
/- The statements' own identifiers and words. -/
namespace Go.Proofs.Ytdpbjoldgiikkaa
open Go Go.Sl
attribute [local irreducible] Code.wpIn roundPost bodyPostM runL Ret Meets Begin

def symI (t : ByteArray) (n : Int) : SymD := ⟨1, t, n⟩
def symW (t : ByteArray) : SymD := ⟨3, t, 0⟩
theorem I_spec (t : ByteArray) (n : Int) : Ctr Try.prog 48 [.string t, .int .i64 n] [] (fun v M => v = (symI t n).val ∧ M = []) := by
  refine spec_of Try.func48 rfl Try.ntmps48 rfl fun w0 F => ?_
  -- ponder/ponderlaw09.I
  repeat (first | refine g_endt ?_ | refine g_end ?_ | refine g_then ?_ | refine g_in_normal ?_ | refine g_then_ret ?_ | refine g_in_ret ?_ | refine g_then_exit ?_ | refine g_in_exit rfl ?_ | refine g_in_exit_ne (by decide) ?_ | refine g_seq ?_ | refine g_region ?_ | refine g_block ?_ | refine g_ret ?_ | refine g_return_n ?_ | refine g_exit ?_ | refine g_skip ?_)
  refine o_alloc fun r => ?_
  first | refine g_endt ?_ | refine g_end ?_
  repeat (first | refine g_endt ?_ | refine g_end ?_ | refine g_then ?_ | refine g_in_normal ?_ | refine g_then_ret ?_ | refine g_in_ret ?_ | refine g_then_exit ?_ | refine g_in_exit rfl ?_ | refine g_in_exit_ne (by decide) ?_ | refine g_seq ?_ | refine g_region ?_ | refine g_block ?_ | refine g_ret ?_ | refine g_return_n ?_ | refine g_exit ?_ | refine g_skip ?_)
  refine o_move ?_
  refine o_move ?_
  refine o_build ((symI t n).val) (fun w => by kernel_rfl) ?_
  refine o_store (v := (symI t n).val) rfl rfl rfl rfl rfl ?_
  first | refine g_endt ?_ | refine g_end ?_
  refine G.norm r (symI t n).val.cells rfl ?_
  repeat (first | refine g_endt ?_ | refine g_end ?_ | refine g_then ?_ | refine g_in_normal ?_ | refine g_then_ret ?_ | refine g_in_ret ?_ | refine g_then_exit ?_ | refine g_in_exit rfl ?_ | refine g_in_exit_ne (by decide) ?_ | refine g_seq ?_ | refine g_region ?_ | refine g_block ?_ | refine g_ret ?_ | refine g_return_n ?_ | refine g_exit ?_ | refine g_skip ?_)
  exact ret1 (K := []) rfl (resCN (v := (symI t n).val) rfl rfl rfl) ⟨rfl, rfl⟩
theorem W_spec (t : ByteArray) : Ctr Try.prog 49 [.string t] [] (fun v M => v = (symW t).val ∧ M = []) := by
  refine spec_of Try.func49 rfl Try.ntmps49 rfl fun w0 F => ?_
  -- ponder/ponderlaw09.W
  repeat (first | refine g_endt ?_ | refine g_end ?_ | refine g_then ?_ | refine g_in_normal ?_ | refine g_then_ret ?_ | refine g_in_ret ?_ | refine g_then_exit ?_ | refine g_in_exit rfl ?_ | refine g_in_exit_ne (by decide) ?_ | refine g_seq ?_ | refine g_region ?_ | refine g_block ?_ | refine g_ret ?_ | refine g_return_n ?_ | refine g_exit ?_ | refine g_skip ?_)
  refine o_alloc fun r => ?_
  first | refine g_endt ?_ | refine g_end ?_
  repeat (first | refine g_endt ?_ | refine g_end ?_ | refine g_then ?_ | refine g_in_normal ?_ | refine g_then_ret ?_ | refine g_in_ret ?_ | refine g_then_exit ?_ | refine g_in_exit rfl ?_ | refine g_in_exit_ne (by decide) ?_ | refine g_seq ?_ | refine g_region ?_ | refine g_block ?_ | refine g_ret ?_ | refine g_return_n ?_ | refine g_exit ?_ | refine g_skip ?_)
  refine o_move ?_
  refine o_build ((symW t).val) (fun w => by kernel_rfl) ?_
  refine o_store (v := (symW t).val) rfl rfl rfl rfl rfl ?_
  first | refine g_endt ?_ | refine g_end ?_
  refine G.norm r (symW t).val.cells rfl ?_
  repeat (first | refine g_endt ?_ | refine g_end ?_ | refine g_then ?_ | refine g_in_normal ?_ | refine g_then_ret ?_ | refine g_in_ret ?_ | refine g_then_exit ?_ | refine g_in_exit rfl ?_ | refine g_in_exit_ne (by decide) ?_ | refine g_seq ?_ | refine g_region ?_ | refine g_block ?_ | refine g_ret ?_ | refine g_return_n ?_ | refine g_exit ?_ | refine g_skip ?_)
  exact ret1 (K := []) rfl (resCN (v := (symW t).val) rfl rfl rfl) ⟨rfl, rfl⟩
end Go.Proofs.Ytdpbjoldgiikkaa
/- The statements' own elements. -/
namespace Go.Proofs.Ytdpbjoldgiikkaa
open Go Go.Sl
attribute [local irreducible] Code.wpIn roundPost bodyPostM runL Ret Meets Begin

def elemE (n : Int) (a : ByteArray) (v : SymD) : ElemD := ⟨symI ⟨#[65]⟩ n, symW a, v, false, false, 0⟩
theorem E_spec (n : Int) (a : ByteArray) (s : SymD) : Ctr Try.prog 17 [.int .i64 n, .string a, s.val] [] (fun v M => v = (elemE n a s).val ∧ M = []) := by
  refine spec_of Try.func17 rfl Try.ntmps17 rfl fun w0 F => ?_
  -- ponder/ponderlaw10.E
  repeat (first | refine g_endt ?_ | refine g_end ?_ | refine g_then ?_ | refine g_in_normal ?_ | refine g_then_ret ?_ | refine g_in_ret ?_ | refine g_then_exit ?_ | refine g_in_exit rfl ?_ | refine g_in_exit_ne (by decide) ?_ | refine g_seq ?_ | refine g_region ?_ | refine g_block ?_ | refine g_ret ?_ | refine g_return_n ?_ | refine g_exit ?_ | refine g_skip ?_)
  refine o_boxc s.val.cells rfl rfl fun q => ?_
  refine o_alloc fun r => ?_
  first | refine g_endt ?_ | refine g_end ?_
  repeat (first | refine g_endt ?_ | refine g_end ?_ | refine g_then ?_ | refine g_in_normal ?_ | refine g_then_ret ?_ | refine g_in_ret ?_ | refine g_then_exit ?_ | refine g_in_exit rfl ?_ | refine g_in_exit_ne (by decide) ?_ | refine g_seq ?_ | refine g_region ?_ | refine g_block ?_ | refine g_ret ?_ | refine g_return_n ?_ | refine g_exit ?_ | refine g_skip ?_)
  refine g_draw [6] [0,1,2,3,4,5,6] [cellsB q s.val.cells 23] mixed rfl ?_
  refine ob_q rfl rfl ⟨_, fun X Q h => o_move (g_end (h _ _ ⟨rfl, rfl⟩)), ?_⟩
  refine ob_q rfl rfl ⟨_, fun X Q h => o_call (I_spec ⟨#[65]⟩ n) rfl rfl <| by rintro _ _ ⟨rfl, rfl⟩; exact (g_end (h _ _ ⟨rfl, rfl⟩)), ?_⟩
  refine ob_q rfl rfl ⟨_, fun X Q h => o_move (g_end (h _ _ ⟨rfl, rfl⟩)), ?_⟩
  refine ob_q rfl rfl ⟨_, fun X Q h => o_call (W_spec a) rfl rfl <| by rintro _ _ ⟨rfl, rfl⟩; exact (g_end (h _ _ ⟨rfl, rfl⟩)), ?_⟩
  refine ob_q rfl rfl ⟨_, fun X Q h => o_loadN (v := s.val) rfl rfl rfl (g_end (h _ _ ⟨rfl, rfl⟩)), ?_⟩
  refine ob_q rfl rfl ⟨_, fun X Q h => o_build (elemE n a s).val (fun w => by kernel_rfl) (g_end (h _ _ ⟨rfl, rfl⟩)), ?_⟩
  refine ob_l rfl rfl fun Qz hz => o_store (v := (elemE n a s).val) rfl rfl rfl rfl rfl ?_
  refine g_end (hz _ _ ⟨_, ob_fin, ?_⟩)
  clear hz Qz
  refine ob_nil ?_
  refine G.norm r (elemE n a s).val.cells rfl ?_
  repeat (first | refine g_endt ?_ | refine g_end ?_ | refine g_then ?_ | refine g_in_normal ?_ | refine g_then_ret ?_ | refine g_in_ret ?_ | refine g_then_exit ?_ | refine g_in_exit rfl ?_ | refine g_in_exit_ne (by decide) ?_ | refine g_seq ?_ | refine g_region ?_ | refine g_block ?_ | refine g_ret ?_ | refine g_return_n ?_ | refine g_exit ?_ | refine g_skip ?_)
  exact ret1 (K := []) rfl (resCN (v := (elemE n a s).val) rfl rfl rfl) ⟨rfl, rfl⟩
end Go.Proofs.Ytdpbjoldgiikkaa
/- The statements' own numbers. -/
namespace Go.Proofs.Ytdpbjoldgiikkaa
open Go Go.Sl
attribute [local irreducible] Code.wpIn roundPost bodyPostM runL Ret Meets Begin

def symN (n : Int) : SymD := ⟨2, ByteArray.empty, n⟩
theorem N_spec (n : Int) : Ctr Try.prog 18 [.int .i64 n] [] (fun v M => v = (symN n).val ∧ M = []) := by
  refine spec_of Try.func18 rfl Try.ntmps18 rfl fun w0 F => ?_
  -- ponder/ponderlaw09.N
  repeat (first | refine g_endt ?_ | refine g_end ?_ | refine g_then ?_ | refine g_in_normal ?_ | refine g_then_ret ?_ | refine g_in_ret ?_ | refine g_then_exit ?_ | refine g_in_exit rfl ?_ | refine g_in_exit_ne (by decide) ?_ | refine g_seq ?_ | refine g_region ?_ | refine g_block ?_ | refine g_ret ?_ | refine g_return_n ?_ | refine g_exit ?_ | refine g_skip ?_)
  refine o_alloc fun r => ?_
  first | refine g_endt ?_ | refine g_end ?_
  repeat (first | refine g_endt ?_ | refine g_end ?_ | refine g_then ?_ | refine g_in_normal ?_ | refine g_then_ret ?_ | refine g_in_ret ?_ | refine g_then_exit ?_ | refine g_in_exit rfl ?_ | refine g_in_exit_ne (by decide) ?_ | refine g_seq ?_ | refine g_region ?_ | refine g_block ?_ | refine g_ret ?_ | refine g_return_n ?_ | refine g_exit ?_ | refine g_skip ?_)
  refine o_move ?_
  refine o_build ((symN n).val) (fun w => by kernel_rfl) ?_
  refine o_store (v := (symN n).val) rfl rfl rfl rfl rfl ?_
  first | refine g_endt ?_ | refine g_end ?_
  refine G.norm r (symN n).val.cells rfl ?_
  repeat (first | refine g_endt ?_ | refine g_end ?_ | refine g_then ?_ | refine g_in_normal ?_ | refine g_then_ret ?_ | refine g_in_ret ?_ | refine g_then_exit ?_ | refine g_in_exit rfl ?_ | refine g_in_exit_ne (by decide) ?_ | refine g_seq ?_ | refine g_region ?_ | refine g_block ?_ | refine g_ret ?_ | refine g_return_n ?_ | refine g_exit ?_ | refine g_skip ?_)
  exact ret1 (K := []) rfl (resCN (v := (symN n).val) rfl rfl rfl) ⟨rfl, rfl⟩
end Go.Proofs.Ytdpbjoldgiikkaa
/- The document's example of chapter 10; which elements are right: the walks. -/
namespace Go.Proofs.Ytdpbjoldgiikkaa
open Go Go.Sl
attribute [local irreducible] Exit.then Exit.inBlock Code.wpIn roundPost bodyPostM runL Ret Meets MeetsD Begin

theorem SetK_spec (s : Nat) (room next : Int) (ts : List ElemD) (A : Option Addr) (n c : Nat) (l : List ElemD) (hl : l.length = n) (hm : n ≤ 10000) (hsm : ∀ e ∈ l, e.small) (hts : ts.length ≤ 10000) (hr : 0 ≤ room) (hnx : -1000000000 ≤ next ∧ next ≤ 1000000000) {r : RD} (h : setD room next ts l = r) :
    Ctr Try.prog 14 [.pointer (some ⟨s, 0, none⟩), .slice A n c] [StP s room next ts, psl encE 12 A l]
      (fun v M => ∃ U u W w, v = .tuple #[.slice U r.added.length u, .slice W r.gone.length w, .int .i64 r.err] ∧ M = [StP s room r.next r.ts, oE U u r.added, oE W w r.gone, psl encE 12 A l]) := by
  rw [← h]; exact Set10_spec s room next ts A n c l hl hm hsm hts hr hnx
theorem RSetK_spec (q : Nat) (room next : Int) (ts : List ElemD) (A : Option Addr) (n c : Nat) (l : List ElemD) (hl : l.length = n) (hm : n ≤ 10000) (hsm : ∀ e ∈ l, e.small) (hts : ts.length ≤ 10000) (hnx : -1000000000 ≤ next ∧ next ≤ 1000000000) {r : RD} (h : setD room next ts l = r) :
    Ctr Try.prog 30 [.pointer (some ⟨q, 0, none⟩), .slice A n c] [RefP q room next ts, psl encE 12 A l]
      (fun v M => ∃ U u W w, v = .tuple #[.slice U r.added.length u, .slice W r.gone.length w, .int .i64 r.err] ∧ M = [RefP q room r.next r.ts, psl encE 12 U r.added, psl encE 12 W r.gone, psl encE 12 A l]) := by
  rw [← h]; exact RSet_spec q room next ts A n c l hl hm hsm hts hnx
theorem short_small {e : ElemD} (h : shortE e = true) : e.small := by
  simp only [shortE, Bool.and_eq_true, decide_eq_true_eq] at h
  exact ⟨by omega, by omega, by omega⟩
theorem light_small {l : List ElemD} {k : Nat} (h : lightE l k = true) : l.length ≤ k ∧ ∀ e ∈ l, e.small := by
  simp only [lightE, Bool.and_eq_true, decide_eq_true_eq] at h
  exact ⟨h.1, fun e he => short_small (List.all_eq_true.1 h.2 e he)⟩
def exE (n : Int) : ElemD := elemE 1 ⟨#[120]⟩ (symN n)
def exT (n t : Int) : ElemD := { exE n with tag := t }
theorem exS1 : setD 9 1 [] [exE 1, exE 2] = ⟨[exT 1 1, exT 2 2], [], 0, 3, [exT 1 1, exT 2 2]⟩ := by kernel_rfl
theorem exS2 : setD 9 3 [exT 1 1, exT 2 2] [exE 2, exE 3] = ⟨[exT 3 3], [exT 1 1], 0, 4, [exT 2 2, exT 3 3]⟩ := by kernel_rfl
theorem exE_small (n : Int) : (exE n).small := ⟨by show (⟨#[65]⟩ : ByteArray).size ≤ _; decide, by show (⟨#[120]⟩ : ByteArray).size ≤ _; decide, by show ByteArray.empty.size ≤ _; decide⟩
set_option maxHeartbeats 2000000 in
theorem wakes10_spec : Ctr Try.prog 10 [] [] (fun v M => v = .bool true ∧ M = []) := by
  refine spec_of Try.func10 rfl Try.ntmps10 rfl fun w0 F => ?_
  -- hide
  -- ponder/ponderlaw10.wakes
  have hsm : ∀ (a b : Int), ∀ e ∈ [exE a, exE b], e.small := fun a b e he => by
    rcases List.mem_cons.1 he with rfl | he
    · exact exE_small _
    · rw [List.mem_singleton] at he; subst he; exact exE_small _
  repeat (first | refine g_endt ?_ | refine g_end ?_ | refine g_then ?_ | refine g_in_normal ?_ | refine g_then_ret ?_ | refine g_in_ret ?_ | refine g_then_exit ?_ | refine g_in_exit rfl ?_ | refine g_in_exit_ne (by decide) ?_ | refine g_seq ?_ | refine g_region ?_ | refine g_block ?_ | refine g_ret ?_ | refine g_return_n ?_ | refine g_exit ?_ | refine g_skip ?_)
  refine g_hideR fun Q_ hQ_ => ?_
  refine o_assign ?_
  refine g_end (G.imp (hQ_ .normal _) ?_)
  clear hQ_ Q_
  try refine g_then ?_
  repeat (first | refine g_endt ?_ | refine g_end ?_ | refine g_then ?_ | refine g_in_normal ?_ | refine g_then_ret ?_ | refine g_in_ret ?_ | refine g_then_exit ?_ | refine g_in_exit rfl ?_ | refine g_in_exit_ne (by decide) ?_ | refine g_seq ?_ | refine g_region ?_ | refine g_block ?_ | refine g_ret ?_ | refine g_return_n ?_ | refine g_exit ?_ | refine g_skip ?_)
  refine g_hideR fun Q_ hQ_ => ?_
  refine o_call (NewG_spec 9 (by decide) (by decide)) rfl rfl ?_
  rintro _ _ ⟨s, rfl, rfl⟩
  refine o_move ?_
  refine o_extract rfl rfl ?_
  refine o_extract rfl rfl ?_
  refine o_assign ?_
  refine o_assign ?_
  refine g_end (G.imp (hQ_ .normal _) ?_)
  clear hQ_ Q_
  try refine g_then ?_
  repeat (first | refine g_endt ?_ | refine g_end ?_ | refine g_then ?_ | refine g_in_normal ?_ | refine g_then_ret ?_ | refine g_in_ret ?_ | refine g_then_exit ?_ | refine g_in_exit rfl ?_ | refine g_in_exit_ne (by decide) ?_ | refine g_seq ?_ | refine g_region ?_ | refine g_block ?_ | refine g_ret ?_ | refine g_return_n ?_ | refine g_exit ?_ | refine g_skip ?_)
  refine g_hideR fun Q_ hQ_ => ?_
  refine o_move ?_
  refine o_neq rfl rfl ?_
  refine o_move ?_
  first | (refine o_want rfl rfl rfl rfl rfl ?_; refine o_move ?_) | refine o_unwanted rfl rfl rfl rfl rfl ?_ | refine o_undef rfl rfl rfl ?_
  first | (refine o_want rfl rfl rfl rfl rfl ?_; refine o_peql rfl ?_) | refine o_unwanted rfl rfl rfl rfl rfl ?_ | refine o_undef rfl rfl rfl ?_
  first | refine o_pick_t rfl rfl ?_ | refine o_pick_f rfl rfl ?_
  refine g_end (G.imp (hQ_ .normal _) ?_)
  clear hQ_ Q_
  try refine g_then ?_
  first | refine g_seq (g_cond_f rfl (by first | rfl | (simp; done) | (simp; omega) | (simp; assumption)) ?_) | refine g_cond_f rfl (by first | rfl | (simp; done) | (simp; omega) | (simp; assumption)) ?_
  repeat (first | refine g_endt ?_ | refine g_end ?_ | refine g_then ?_ | refine g_in_normal ?_ | refine g_then_ret ?_ | refine g_in_ret ?_ | refine g_then_exit ?_ | refine g_in_exit rfl ?_ | refine g_in_exit_ne (by decide) ?_ | refine g_seq ?_ | refine g_region ?_ | refine g_block ?_ | refine g_ret ?_ | refine g_return_n ?_ | refine g_exit ?_ | refine g_skip ?_)
  refine g_hideR fun Q_ hQ_ => ?_
  refine o_call (N_spec 1) rfl rfl ?_
  rintro _ _ ⟨rfl, rfl⟩
  refine o_call (E_spec 1 ⟨#[120]⟩ (symN 1)) rfl rfl ?_
  rintro _ _ ⟨rfl, rfl⟩
  refine o_call (N_spec 2) rfl rfl ?_
  rintro _ _ ⟨rfl, rfl⟩
  refine o_call (E_spec 1 ⟨#[120]⟩ (symN 2)) rfl rfl ?_
  rintro _ _ ⟨rfl, rfl⟩
  refine o_call (N_spec 3) rfl rfl ?_
  rintro _ _ ⟨rfl, rfl⟩
  refine o_call (E_spec 1 ⟨#[120]⟩ (symN 3)) rfl rfl ?_
  rintro _ _ ⟨rfl, rfl⟩
  refine o_alloc fun x => ?_
  refine o_alloc fun y => ?_
  refine o_alloc fun z => ?_
  refine o_store (v := (exE 1).val) rfl rfl rfl rfl rfl ?_
  refine o_store (v := (exE 2).val) rfl rfl rfl rfl rfl ?_
  refine o_store (v := (exE 3).val) rfl rfl rfl rfl rfl ?_
  refine g_end (G.imp (hQ_ .normal _) ?_)
  clear hQ_ Q_
  try refine g_then ?_
  refine G.norm x (exE 1).val.cells rfl ?_
  refine G.norm y (exE 2).val.cells rfl ?_
  refine G.norm z (exE 3).val.cells rfl ?_
  repeat (first | refine g_endt ?_ | refine g_end ?_ | refine g_then ?_ | refine g_in_normal ?_ | refine g_then_ret ?_ | refine g_in_ret ?_ | refine g_then_exit ?_ | refine g_in_exit rfl ?_ | refine g_in_exit_ne (by decide) ?_ | refine g_seq ?_ | refine g_region ?_ | refine g_block ?_ | refine g_ret ?_ | refine g_return_n ?_ | refine g_exit ?_ | refine g_skip ?_)
  refine g_hideR fun Q_ hQ_ => ?_
  refine o_move ?_
  refine o_loadN (v := (exE 1).val) rfl rfl rfl ?_
  refine o_loadN (v := (exE 2).val) rfl rfl rfl ?_
  refine o_litP (e := 25) encE [exE 1, exE 2] ((exE 1).val.cells ++ (exE 2).val.cells) (fun w => by kernel_rfl) (by simp [encE]) (by simp [maxLen]) fun b1 => ?_
  refine o_call (SetK_spec s 9 1 [] (some ⟨b1, 0, none⟩) 2 2 [exE 1, exE 2] rfl (by decide) (hsm 1 2) (by simp) (by decide) ⟨by decide, by decide⟩ exS1) rfl rfl ?_
  rintro _ _ ⟨U1, u1, W1, w1, rfl, rfl⟩
  refine g_end (G.imp (hQ_ .normal _) ?_)
  clear hQ_ Q_
  try refine g_then ?_
  repeat (first | refine g_endt ?_ | refine g_end ?_ | refine g_then ?_ | refine g_in_normal ?_ | refine g_then_ret ?_ | refine g_in_ret ?_ | refine g_then_exit ?_ | refine g_in_exit rfl ?_ | refine g_in_exit_ne (by decide) ?_ | refine g_seq ?_ | refine g_region ?_ | refine g_block ?_ | refine g_ret ?_ | refine g_return_n ?_ | refine g_exit ?_ | refine g_skip ?_)
  refine g_hideR fun Q_ hQ_ => ?_
  refine o_move ?_
  refine o_loadN (v := (exE 2).val) rfl rfl rfl ?_
  refine o_loadN (v := (exE 3).val) rfl rfl rfl ?_
  refine o_litP (e := 25) encE [exE 2, exE 3] ((exE 2).val.cells ++ (exE 3).val.cells) (fun w => by kernel_rfl) (by simp [encE]) (by simp [maxLen]) fun b2 => ?_
  refine o_call (SetK_spec s 9 3 [exT 1 1, exT 2 2] (some ⟨b2, 0, none⟩) 2 2 [exE 2, exE 3] rfl (by decide) (hsm 2 3) (by simp) (by decide) ⟨by decide, by decide⟩ exS2) rfl rfl ?_
  rintro _ _ ⟨U2, u2, W2, w2, rfl, rfl⟩
  refine o_move ?_
  refine o_extract rfl rfl ?_
  refine o_extract rfl rfl ?_
  refine o_extract rfl rfl ?_
  refine o_assign ?_
  refine o_assign ?_
  refine o_assign ?_
  refine g_end (G.imp (hQ_ .normal _) ?_)
  clear hQ_ Q_
  try refine g_then ?_
  refine G.bring [StP s 9 4 [exT 2 2, exT 3 3], oE U2 u2 [exT 3 3], oE W2 w2 [exT 1 1]] ?_
  repeat (first | refine g_endt ?_ | refine g_end ?_ | refine g_then ?_ | refine g_in_normal ?_ | refine g_then_ret ?_ | refine g_in_ret ?_ | refine g_then_exit ?_ | refine g_in_exit rfl ?_ | refine g_in_exit_ne (by decide) ?_ | refine g_seq ?_ | refine g_region ?_ | refine g_block ?_ | refine g_ret ?_ | refine g_return_n ?_ | refine g_exit ?_ | refine g_skip ?_)
  refine g_hideR fun Q_ hQ_ => ?_
  refine o_move ?_
  refine o_eql rfl rfl ?_
  refine o_move ?_
  first | (refine o_want rfl rfl rfl rfl rfl ?_; refine o_move ?_) | refine o_unwanted rfl rfl rfl rfl rfl ?_ | refine o_undef rfl rfl rfl ?_
  first | (refine o_want rfl rfl rfl rfl rfl ?_; refine o_len rfl rfl ?_) | refine o_unwanted rfl rfl rfl rfl rfl ?_ | refine o_undef rfl rfl rfl ?_
  first | (refine o_want rfl rfl rfl rfl rfl ?_; refine o_eql rfl rfl ?_) | refine o_unwanted rfl rfl rfl rfl rfl ?_ | refine o_undef rfl rfl rfl ?_
  first | refine o_pick_t rfl rfl ?_ | refine o_pick_f rfl rfl ?_
  refine o_move ?_
  first | (refine o_want rfl rfl rfl rfl rfl ?_; refine o_move ?_) | refine o_unwanted rfl rfl rfl rfl rfl ?_ | refine o_undef rfl rfl rfl ?_
  refine o_want rfl rfl rfl rfl rfl (o_indexR (ys := [exT 3 3]) (i := 0) rfl rfl rfl (by decide) rfl rfl ?_)
  refine o_want rfl rfl rfl rfl rfl (o_fieldR (ys := [exT 3 3]) rfl (by decide) ?_)
  refine o_want rfl rfl rfl rfl rfl (o_loadE1 (off := 11) (ys := [exT 3 3]) (v := .int .i64 3) rfl (i := 0) (z := exT 3 3) rfl rfl ?_)
  first | (refine o_want rfl rfl rfl rfl rfl ?_; refine o_eql rfl rfl ?_) | refine o_unwanted rfl rfl rfl rfl rfl ?_ | refine o_undef rfl rfl rfl ?_
  first | refine o_pick_t rfl rfl ?_ | refine o_pick_f rfl rfl ?_
  refine o_move ?_
  first | (refine o_want rfl rfl rfl rfl rfl ?_; refine o_move ?_) | refine o_unwanted rfl rfl rfl rfl rfl ?_ | refine o_undef rfl rfl rfl ?_
  first | (refine o_want rfl rfl rfl rfl rfl ?_; refine o_len rfl rfl ?_) | refine o_unwanted rfl rfl rfl rfl rfl ?_ | refine o_undef rfl rfl rfl ?_
  first | (refine o_want rfl rfl rfl rfl rfl ?_; refine o_eql rfl rfl ?_) | refine o_unwanted rfl rfl rfl rfl rfl ?_ | refine o_undef rfl rfl rfl ?_
  first | refine o_pick_t rfl rfl ?_ | refine o_pick_f rfl rfl ?_
  refine o_move ?_
  first | (refine o_want rfl rfl rfl rfl rfl ?_; refine o_move ?_) | refine o_unwanted rfl rfl rfl rfl rfl ?_ | refine o_undef rfl rfl rfl ?_
  refine o_want rfl rfl rfl rfl rfl (o_indexR (ys := [exT 1 1]) (i := 0) rfl rfl rfl (by decide) rfl rfl ?_)
  refine o_want rfl rfl rfl rfl rfl (o_fieldR (ys := [exT 1 1]) rfl (by decide) ?_)
  refine o_want rfl rfl rfl rfl rfl (o_loadE1 (off := 11) (ys := [exT 1 1]) (v := .int .i64 1) rfl (i := 0) (z := exT 1 1) rfl rfl ?_)
  first | (refine o_want rfl rfl rfl rfl rfl ?_; refine o_eql rfl rfl ?_) | refine o_unwanted rfl rfl rfl rfl rfl ?_ | refine o_undef rfl rfl rfl ?_
  first | refine o_pick_t rfl rfl ?_ | refine o_pick_f rfl rfl ?_
  refine o_move ?_
  first | (refine o_want rfl rfl rfl rfl rfl ?_; refine o_move ?_) | refine o_unwanted rfl rfl rfl rfl rfl ?_ | refine o_undef rfl rfl rfl ?_
  refine o_want rfl rfl rfl rfl rfl (o_call (NextSt_spec s 9 4 [exT 2 2, exT 3 3]) rfl rfl ?_)
  rintro _ _ ⟨rfl, rfl⟩
  first | (refine o_want rfl rfl rfl rfl rfl ?_; refine o_eql rfl rfl ?_) | refine o_unwanted rfl rfl rfl rfl rfl ?_ | refine o_undef rfl rfl rfl ?_
  first | refine o_pick_t rfl rfl ?_ | refine o_pick_f rfl rfl ?_
  refine o_assign ?_
  refine g_end (G.imp (hQ_ .normal _) ?_)
  clear hQ_ Q_
  try refine g_then ?_
  repeat (first | refine g_endt ?_ | refine g_end ?_ | refine g_then ?_ | refine g_in_normal ?_ | refine g_then_ret ?_ | refine g_in_ret ?_ | refine g_then_exit ?_ | refine g_in_exit rfl ?_ | refine g_in_exit_ne (by decide) ?_ | refine g_seq ?_ | refine g_region ?_ | refine g_block ?_ | refine g_ret ?_ | refine g_return_n ?_ | refine g_exit ?_ | refine g_skip ?_)
  exact ret1 (K := []) rfl (resT rfl) ⟨rfl, rfl⟩
end Go.Proofs.Ytdpbjoldgiikkaa
/- Numbers within bounds. -/
namespace Go.Proofs.Ytdpbjoldgiikkaa
open Go Go.Sl
attribute [local irreducible] Code.wpIn roundPost bodyPostM runL Ret Meets Begin

theorem within_tmod (a : Int) (n : Nat) (hn : 0 < n) : (if a.tmod n < 0 then a.tmod n + n else a.tmod n) = ((a % (n : Int)).toNat : Int) ∧ -(n : Int) < a.tmod n ∧ a.tmod n < n := by
  have h0 : 0 ≤ a % (n : Int) := Int.emod_nonneg _ (by omega)
  have h1 : a % (n : Int) < n := Int.emod_lt_of_pos _ (by omega)
  rw [Int.toNat_of_nonneg h0, Int.tmod_eq_emod]
  by_cases hc : 0 ≤ a ∨ (n : Int) ∣ a
  · rw [if_pos hc]
    exact ⟨by rw [if_neg (by omega)]; omega, by omega, by omega⟩
  · rw [if_neg hc]
    simp only [Int.natAbs_natCast]
    have h3 : a % (n : Int) ≠ 0 := fun e => hc (.inr (Int.dvd_of_emod_eq_zero e))
    exact ⟨by rw [if_pos (by omega)]; omega, by omega, by omega⟩
theorem Within_spec (a : Int) (n : Nat) (hn : 0 < n) (hn2 : n ≤ 1000000000) : Ctr Try.prog 16 [.int .i64 a, .int .i64 (n : Int)] [] (fun v M => v = .int .i64 ((a % (n : Int)).toNat : Int) ∧ M = []) := by
  obtain ⟨h1, h2, h3⟩ := within_tmod a n hn
  refine spec_of Try.func16 rfl Try.ntmps16 rfl fun w0 F => ?_
  -- ponder/ponderkeep.Within
  repeat (first | refine g_endt ?_ | refine g_end ?_ | refine g_then ?_ | refine g_in_normal ?_ | refine g_then_ret ?_ | refine g_in_ret ?_ | refine g_then_exit ?_ | refine g_in_exit rfl ?_ | refine g_in_exit_ne (by decide) ?_ | refine g_seq ?_ | refine g_region ?_ | refine g_block ?_ | refine g_ret ?_ | refine g_return_n ?_ | refine g_exit ?_ | refine g_skip ?_)
  refine o_assign ?_
  first | refine g_endt ?_ | refine g_end ?_
  repeat (first | refine g_endt ?_ | refine g_end ?_ | refine g_then ?_ | refine g_in_normal ?_ | refine g_then_ret ?_ | refine g_in_ret ?_ | refine g_then_exit ?_ | refine g_in_exit rfl ?_ | refine g_in_exit_ne (by decide) ?_ | refine g_seq ?_ | refine g_region ?_ | refine g_block ?_ | refine g_ret ?_ | refine g_return_n ?_ | refine g_exit ?_ | refine g_skip ?_)
  refine o_move ?_
  refine o_lss rfl rfl ?_
  first | refine g_endt ?_ | refine g_end ?_
  first | refine g_seq (g_cond_f rfl (by simp; omega) ?_) | refine g_cond_f rfl (by simp; omega) ?_
  repeat (first | refine g_endt ?_ | refine g_end ?_ | refine g_then ?_ | refine g_in_normal ?_ | refine g_then_ret ?_ | refine g_in_ret ?_ | refine g_then_exit ?_ | refine g_in_exit rfl ?_ | refine g_in_exit_ne (by decide) ?_ | refine g_seq ?_ | refine g_region ?_ | refine g_block ?_ | refine g_ret ?_ | refine g_return_n ?_ | refine g_exit ?_ | refine g_skip ?_)
  refine o_move ?_
  refine o_move ?_
  refine o_rem rfl rfl (by omega) ?_
  refine o_assign ?_
  first | refine g_endt ?_ | refine g_end ?_
  generalize a.tmod n = t at h1 h2 h3 ⊢
  repeat (first | refine g_endt ?_ | refine g_end ?_ | refine g_then ?_ | refine g_in_normal ?_ | refine g_then_ret ?_ | refine g_in_ret ?_ | refine g_then_exit ?_ | refine g_in_exit rfl ?_ | refine g_in_exit_ne (by decide) ?_ | refine g_seq ?_ | refine g_region ?_ | refine g_block ?_ | refine g_ret ?_ | refine g_return_n ?_ | refine g_exit ?_ | refine g_skip ?_)
  refine o_move ?_
  refine o_lss rfl rfl ?_
  first | refine g_endt ?_ | refine g_end ?_
  by_cases h : t < 0
  · first | refine g_seq (g_cond_t rfl (by simpa using h) ?_) | refine g_cond_t rfl (by simpa using h) ?_
    rw [if_pos h] at h1
    repeat (first | refine g_endt ?_ | refine g_end ?_ | refine g_then ?_ | refine g_in_normal ?_ | refine g_then_ret ?_ | refine g_in_ret ?_ | refine g_then_exit ?_ | refine g_in_exit rfl ?_ | refine g_in_exit_ne (by decide) ?_ | refine g_seq ?_ | refine g_region ?_ | refine g_block ?_ | refine g_ret ?_ | refine g_return_n ?_ | refine g_exit ?_ | refine g_skip ?_)
    refine o_move ?_
    refine o_move ?_
    refine o_add (c := ((a % (n : Int)).toNat : Int)) rfl rfl h1 (by omega) (by omega) ?_
    refine o_assign ?_
    first | refine g_endt ?_ | refine g_end ?_
    repeat (first | refine g_endt ?_ | refine g_end ?_ | refine g_then ?_ | refine g_in_normal ?_ | refine g_then_ret ?_ | refine g_in_ret ?_ | refine g_then_exit ?_ | refine g_in_exit rfl ?_ | refine g_in_exit_ne (by decide) ?_ | refine g_seq ?_ | refine g_region ?_ | refine g_block ?_ | refine g_ret ?_ | refine g_return_n ?_ | refine g_exit ?_ | refine g_skip ?_)
    refine o_move ?_
    refine o_assign ?_
    first | refine g_endt ?_ | refine g_end ?_
    repeat (first | refine g_endt ?_ | refine g_end ?_ | refine g_then ?_ | refine g_in_normal ?_ | refine g_then_ret ?_ | refine g_in_ret ?_ | refine g_then_exit ?_ | refine g_in_exit rfl ?_ | refine g_in_exit_ne (by decide) ?_ | refine g_seq ?_ | refine g_region ?_ | refine g_block ?_ | refine g_ret ?_ | refine g_return_n ?_ | refine g_exit ?_ | refine g_skip ?_)
    exact ret1 rfl (resT rfl) ⟨rfl, rfl⟩
  · first | refine g_seq (g_cond_f rfl (by simpa using h) ?_) | refine g_cond_f rfl (by simpa using h) ?_
    rw [if_neg h] at h1
    repeat (first | refine g_endt ?_ | refine g_end ?_ | refine g_then ?_ | refine g_in_normal ?_ | refine g_then_ret ?_ | refine g_in_ret ?_ | refine g_then_exit ?_ | refine g_in_exit rfl ?_ | refine g_in_exit_ne (by decide) ?_ | refine g_seq ?_ | refine g_region ?_ | refine g_block ?_ | refine g_ret ?_ | refine g_return_n ?_ | refine g_exit ?_ | refine g_skip ?_)
    refine o_move ?_
    refine o_assign ?_
    first | refine g_endt ?_ | refine g_end ?_
    repeat (first | refine g_endt ?_ | refine g_end ?_ | refine g_then ?_ | refine g_in_normal ?_ | refine g_then_ret ?_ | refine g_in_ret ?_ | refine g_then_exit ?_ | refine g_in_exit rfl ?_ | refine g_in_exit_ne (by decide) ?_ | refine g_seq ?_ | refine g_region ?_ | refine g_block ?_ | refine g_ret ?_ | refine g_return_n ?_ | refine g_exit ?_ | refine g_skip ?_)
    rw [h1]
    exact ret1 rfl (resT rfl) ⟨rfl, rfl⟩
end Go.Proofs.Ytdpbjoldgiikkaa
/- What is told, as a list. -/
namespace Go.Proofs.Ytdpbjoldgiikkaa
open Go Go.Sl
attribute [local irreducible] Code.wpIn roundPost bodyPostM runL Ret Meets Begin

theorem ListE_spec (gf : FuncId) (lb : List Value) (xs : List ElemD) {n : Nat} (hn : xs.length = n) (hl : n ≤ 100000) (Ks : List SProp) [En Try.prog gf] (hit : ∀ K, Iter Try.prog gf lb encVE xs (K ++ Ks)) :
    Ctr Try.prog 23 [.func (.func gf) #[] lb.toArray] Ks (fun v M => ∃ S c, v = .slice S n c ∧ M = osl 25 encE 12 S c xs :: Ks) := by
  refine spec_of Try.func23 rfl Try.ntmps23 rfl fun w0 F => ?_
  subst hn
  -- ponder/ponderkeep.List[ponder/api.Elem]
  repeat (first | refine g_endt ?_ | refine g_end ?_ | refine g_then ?_ | refine g_in_normal ?_ | refine g_then_ret ?_ | refine g_in_ret ?_ | refine g_then_exit ?_ | refine g_in_exit rfl ?_ | refine g_in_exit_ne (by decide) ?_ | refine g_seq ?_ | refine g_region ?_ | refine g_block ?_ | refine g_ret ?_ | refine g_return_n ?_ | refine g_exit ?_ | refine g_skip ?_)
  refine o_assign ?_
  first | refine g_endt ?_ | refine g_end ?_
  repeat (first | refine g_endt ?_ | refine g_end ?_ | refine g_then ?_ | refine g_in_normal ?_ | refine g_then_ret ?_ | refine g_in_ret ?_ | refine g_then_exit ?_ | refine g_in_exit rfl ?_ | refine g_in_exit_ne (by decide) ?_ | refine g_seq ?_ | refine g_region ?_ | refine g_block ?_ | refine g_ret ?_ | refine g_return_n ?_ | refine g_exit ?_ | refine g_skip ?_)
  refine o_alloc fun p => ?_
  first | refine g_endt ?_ | refine g_end ?_
  repeat (first | refine g_endt ?_ | refine g_end ?_ | refine g_then ?_ | refine g_in_normal ?_ | refine g_then_ret ?_ | refine g_in_ret ?_ | refine g_then_exit ?_ | refine g_in_exit rfl ?_ | refine g_in_exit_ne (by decide) ?_ | refine g_seq ?_ | refine g_region ?_ | refine g_block ?_ | refine g_ret ?_ | refine g_return_n ?_ | refine g_exit ?_ | refine g_skip ?_)
  refine o_move ?_
  refine o_fnil rfl (fun w => by kernel_rfl) (fun w => by kernel_rfl) ?_
  first | refine g_endt ?_ | refine g_end ?_
  first | refine g_seq (g_cond_f rfl (by first | rfl | (simp; done) | (simp; omega) | (simp; assumption)) ?_) | refine g_cond_f rfl (by first | rfl | (simp; done) | (simp; omega) | (simp; assumption)) ?_
  repeat (first | refine g_endt ?_ | refine g_end ?_ | refine g_then ?_ | refine g_in_normal ?_ | refine g_then_ret ?_ | refine g_in_ret ?_ | refine g_then_exit ?_ | refine g_in_exit rfl ?_ | refine g_in_exit_ne (by decide) ?_ | refine g_seq ?_ | refine g_region ?_ | refine g_block ?_ | refine g_ret ?_ | refine g_return_n ?_ | refine g_exit ?_ | refine g_skip ?_)
  refine o_move ?_
  first | refine g_endt ?_ | refine g_end ?_
  repeat (first | refine g_endt ?_ | refine g_end ?_ | refine g_then ?_ | refine g_in_normal ?_ | refine g_then_ret ?_ | refine g_in_ret ?_ | refine g_then_exit ?_ | refine g_in_exit rfl ?_ | refine g_in_exit_ne (by decide) ?_ | refine g_seq ?_ | refine g_region ?_ | refine g_block ?_ | refine g_ret ?_ | refine g_return_n ?_ | refine g_exit ?_ | refine g_skip ?_)
  refine G.norm p #[.slice none 0 0] rfl ?_
  refine newGE p ?_
  refine g_range (ps := [8]) (enc := encVE) (xs := xs) rfl (fun pre => [GrowE p pre] ++ Ks) (fun _ _ => [pu False]) (fun K => hit [K, GrowE p []]) (fun _ => rfl) ?_ ?_ ?_
  · intro w0 F l r pre x hp
    have hlen : pre.length < xs.length := by
      obtain ⟨t, ht⟩ := hp
      have := congrArg List.length ht
      simp at this
      omega
    refine openGE p pre fun S e => ?_
    repeat (first | refine g_endt ?_ | refine g_end ?_ | refine g_then ?_ | refine g_in_normal ?_ | refine g_then_ret ?_ | refine g_in_ret ?_ | refine g_then_exit ?_ | refine g_in_exit rfl ?_ | refine g_in_exit_ne (by decide) ?_ | refine g_seq ?_ | refine g_region ?_ | refine g_block ?_ | refine g_ret ?_ | refine g_return_n ?_ | refine g_exit ?_ | refine g_skip ?_)
    refine o_alloc fun c => ?_
    refine o_store (v := ElemD.val x) rfl rfl rfl rfl rfl ?_
    first | refine g_endt ?_ | refine g_end ?_
    refine G.norm c (ElemD.val x).cells rfl ?_
    repeat (first | refine g_endt ?_ | refine g_end ?_ | refine g_then ?_ | refine g_in_normal ?_ | refine g_then_ret ?_ | refine g_in_ret ?_ | refine g_then_exit ?_ | refine g_in_exit rfl ?_ | refine g_in_exit_ne (by decide) ?_ | refine g_seq ?_ | refine g_region ?_ | refine g_block ?_ | refine g_ret ?_ | refine g_return_n ?_ | refine g_exit ?_ | refine g_skip ?_)
    refine g_begin ?_
    repeat (first | refine g_endt ?_ | refine g_end ?_ | refine g_then ?_ | refine g_in_normal ?_ | refine g_then_ret ?_ | refine g_in_ret ?_ | refine g_then_exit ?_ | refine g_in_exit rfl ?_ | refine g_in_exit_ne (by decide) ?_ | refine g_seq ?_ | refine g_region ?_ | refine g_block ?_ | refine g_ret ?_ | refine g_return_n ?_ | refine g_exit ?_ | refine g_skip ?_)
    first | refine o_load1 rfl rfl ?_ | refine o_loadE0 rfl (by assumption) rfl ?_ | refine o_loadE1 rfl (by assumption) rfl ?_
    refine o_loadN (v := ElemD.val x) rfl rfl rfl ?_
    refine o_litP (e := 25) encE [x] (ElemD.val x).cells (fun w => by kernel_rfl) (by simp [encE]) (by simp [maxLen]) fun _ => ?_
    refine o_append (xs := pre) (ys := [x]) (by first | rfl | (simp only [List.length_map, List.length_take, List.length_append]; first | rfl | (congr 1; omega))) rfl rfl rfl rfl (fun _ => .inr trivial) (by simp [maxLen]; omega) (by simp; omega) fun S2 e2 => ?_
    refine o_store (v := .slice S2 (pre.length + 1) e2) rfl rfl rfl rfl rfl ?_
    first | refine g_endt ?_ | refine g_end ?_
    refine G.norm p #[.slice S2 (pre.length + 1) e2] rfl ?_
    refine shutGE p (pre ++ [x]) S2 e2 (n := pre.length + 1) (by simp) ?_
    repeat (first | refine g_endt ?_ | refine g_end ?_ | refine g_then ?_ | refine g_in_normal ?_ | refine g_then_ret ?_ | refine g_in_ret ?_ | refine g_then_exit ?_ | refine g_in_exit rfl ?_ | refine g_in_exit_ne (by decide) ?_ | refine g_seq ?_ | refine g_region ?_ | refine g_block ?_ | refine g_ret ?_ | refine g_return_n ?_ | refine g_exit ?_ | refine g_skip ?_)
    exact g_next
  · intro D
    refine openGE p xs fun S e => ?_
    repeat (first | refine g_endt ?_ | refine g_end ?_ | refine g_then ?_ | refine g_in_normal ?_ | refine g_then_ret ?_ | refine g_in_ret ?_ | refine g_then_exit ?_ | refine g_in_exit rfl ?_ | refine g_in_exit_ne (by decide) ?_ | refine g_seq ?_ | refine g_region ?_ | refine g_block ?_ | refine g_ret ?_ | refine g_return_n ?_ | refine g_exit ?_ | refine g_skip ?_)
    first | refine o_load1 rfl rfl ?_ | refine o_loadE0 rfl (by assumption) rfl ?_ | refine o_loadE1 rfl (by assumption) rfl ?_
    refine o_assign ?_
    first | refine g_endt ?_ | refine g_end ?_
    repeat (first | refine g_endt ?_ | refine g_end ?_ | refine g_then ?_ | refine g_in_normal ?_ | refine g_then_ret ?_ | refine g_in_ret ?_ | refine g_then_exit ?_ | refine g_in_exit rfl ?_ | refine g_in_exit_ne (by decide) ?_ | refine g_seq ?_ | refine g_region ?_ | refine g_block ?_ | refine g_ret ?_ | refine g_return_n ?_ | refine g_exit ?_ | refine g_skip ?_)
    exact ret1 (K := osl 25 encE 12 S e xs :: Ks) rfl (resT rfl) ⟨S, e, rfl, rfl⟩
  · intro D c pre hp
    exact G.pu fun h => h.elim
end Go.Proofs.Ytdpbjoldgiikkaa
/- Sorted elements: what two orders share. Small contracts told. -/
namespace Go.Proofs.Ytdpbjoldgiikkaa
open Go Go.Sl
attribute [local irreducible] Exit.then Exit.inBlock Code.wpIn roundPost bodyPostM runL Ret Meets MeetsD Begin

def unG (e : ElemD) : ElemD := { e with goal := false }
def unT (e : ElemD) : ElemD := { e with tag := 0 }
theorem tagD_un : ∀ (n : Int) (l : List ElemD), tagD n (l.map unT) = tagD n l
  | _, [] => rfl
  | n, e :: l => by simp only [List.map_cons, tagD, tagD_un (n + 1) l]; rfl
theorem srt_un {l : List ElemD} (h : Srt ElemD.cmp l) : Srt ElemD.cmp (l.map unT) := fun i j a b hij ha hb => by
  rw [List.getElem?_map] at ha hb
  obtain ⟨x, hx, rfl⟩ := Option.map_eq_some_iff.1 ha
  obtain ⟨y, hy, rfl⟩ := Option.map_eq_some_iff.1 hb
  exact h i j x y hij hx hy
theorem has_sort (l : List ElemD) (z : ElemD) : hasC ElemD.cmp (sortE l) z = hasC ElemD.cmp l z := by
  unfold sortE; rw [hasC_fold linElem]; rfl
theorem mem_sort {l : List ElemD} : ∀ x ∈ sortE l, x ∈ l := by
  have : ∀ (m a : List ElemD), ∀ x ∈ m.foldl (insC ElemD.cmp) a, x ∈ a ∨ x ∈ m := by
    intro m
    induction m with
    | nil => exact fun a x hx => .inl hx
    | cons y m ih =>
      intro a x hx
      rcases ih _ x hx with h | h
      · rcases mem_insC.1 h with h | ⟨_, rfl⟩
        · exact .inl h
        · exact .inr List.mem_cons_self
      · exact .inr (List.mem_cons_of_mem _ h)
  intro x hx
  rcases this l [] x hx with h | h
  · cases h
  · exact h
theorem un_eq {l m : List ElemD} (hl : ∀ e ∈ l, e.goal = false) (hm : ∀ e ∈ m, e.goal = false) (h : ∀ z, hasC ElemD.cmp l z = hasC ElemD.cmp m z) : (sortE l).map unT = (sortE m).map unT := by
  have half : ∀ {l m : List ElemD}, (∀ e ∈ l, e.goal = false) → (∀ e ∈ m, e.goal = false) → (∀ z, hasC ElemD.cmp l z = hasC ElemD.cmp m z) → ∀ z ∈ (sortE l).map unT, z ∈ (sortE m).map unT := by
    intro l m hl hm h z hz
    obtain ⟨x, hx, rfl⟩ := List.mem_map.1 hz
    have h1 : hasC ElemD.cmp (sortE m) x = true := by
      rw [has_sort, ← h, ← has_sort]
      exact List.any_eq_true.2 ⟨x, hx, decide_eq_true (linElem.refl x)⟩
    obtain ⟨y, hy, hc⟩ := List.any_eq_true.1 h1
    refine List.mem_map.2 ⟨y, hy, ?_⟩
    obtain ⟨e1, e2, e3, e4⟩ := ElemD.cmp_iff.1 (of_decide_eq_true hc)
    have g1 := hl x (mem_sort x hx)
    have g2 := hm y (mem_sort y hy)
    obtain ⟨i, a, v, ac, g, t⟩ := x
    obtain ⟨i', a', v', ac', g', t'⟩ := y
    dsimp only at e1 e2 e3 e4 g1 g2
    subst e1 e2 e3 e4 g1 g2
    rfl
  exact (srt_un (sortE_srt' l)).ext linElem (srt_un (sortE_srt' m)) fun z => ⟨half hl hm h z, half hm hl (fun z => (h z).symm) z⟩
theorem StI.sort {next : Int} {ts ys : List ElemD} (h : StI next ts ys) : ys = sortE ts :=
  h.srt.ext linElem (sortE_srt' ts) fun z => by
    constructor
    · intro hz
      have hz' := h.perm.mem_iff.1 hz
      have : hasC ElemD.cmp (sortE ts) z = true := by rw [has_sort]; exact List.any_eq_true.2 ⟨z, hz', decide_eq_true (linElem.refl z)⟩
      obtain ⟨y, hy, hc⟩ := List.any_eq_true.1 this
      rw [← h.uniq y (mem_sort y hy) z hz' (of_decide_eq_true hc)]; exact hy
    · exact fun hz => h.perm.mem_iff.2 (mem_sort z hz)
theorem StI.get {next : Int} {ts ys : List ElemD} (h : StI next ts ys) (e : ElemD) : getM ElemD.cmp ys e = getM ElemD.cmp ts e := by
  cases hg : getM ElemD.cmp ts e with
  | none =>
    have h1 := h.has e
    rw [← getM_isSome, ← getM_isSome, hg] at h1
    exact Option.not_isSome_iff_eq_none.1 (by rw [h1]; decide)
  | some o =>
    obtain ⟨h1, h2⟩ := getM_mem hg
    exact getM_of linElem h.srt (h.perm.mem_iff.2 h1) h2
theorem WithinK_spec (a : Int) (n : Nat) (hn : 0 < n) (hn2 : n ≤ 1000000000) {k : Nat} (h : (a % (n : Int)).toNat = k) : Ctr Try.prog 16 [.int .i64 a, .int .i64 (n : Int)] [] (fun v M => v = .int .i64 (k : Int) ∧ M = []) := by
  rw [← h]; exact Within_spec a n hn hn2
theorem eq_elem_self (e : ElemD) : EqTy Try.prog 25 e.val e.val true := by
  have := eq_elem e e; rwa [ElemD.beq_self] at this
theorem eq_bool_self (b : Bool) : EqTy Try.prog 4 (.bool b) (.bool b) true := by
  have := eq_bool b b; rwa [beq_self_eq_true] at this
theorem FindEK_spec (A : Option Addr) (n c : Nat) (l : List ElemD) (e : ElemD) (hl : l.length = n) (hm : n ≤ 1000000) {o : Option ElemD} (h : getM ElemD.cmp l e = o) : Ctr Try.prog 27 [.slice A n c, e.val] [psl encE 12 A l]
    (fun v M => v = .tuple #[(o.getD ElemD.zero).val, .bool o.isSome] ∧ M = []) := by
  rw [← h]; exact FindE_spec A n c l e hl hm
theorem SortEK_spec (A : Option Addr) (n c : Nat) (l : List ElemD) (hl : l.length = n) (hm : n ≤ 10000) {ss : List ElemD} (h : sortE l = ss) : Ctr Try.prog 28 [.slice A n c] [psl encE 12 A l]
    (fun v M => ∃ T d, v = .slice T ss.length d ∧ M = [psl encE 12 T ss]) := by
  rw [← h]; exact (SortE_spec A n c l hl hm).mono fun v M ⟨T, d, _, h1, h2⟩ => ⟨T, d, h1, h2⟩
end Go.Proofs.Ytdpbjoldgiikkaa
/- Tags: the plain theory. -/
namespace Go.Proofs.Ytdpbjoldgiikkaa
open Go Go.Sl

def elK (k : Nat) : ElemD := elemE ((1 + k % 3 : Nat) : Int) (strOfNums [((97 + k / 3 : Nat) : Int)]) (symN (k : Int))
def kOf (a : Int) : Nat := (a % ((12 : Nat) : Int)).toNat
theorem kOf_lt (a : Int) : kOf a < 12 := by unfold kOf; omega
def elsT (zs : List Int) : List ElemD := zs.map fun a => elK (kOf a)
theorem valid12 : ((List.range 12).all fun (k : Nat) => validE (elK k)) = true := by kernel_rfl
theorem elsT_valid (zs : List Int) : (elsT zs).all validE = true := List.all_eq_true.2 fun e he => by
  obtain ⟨a, _, rfl⟩ := List.mem_map.1 he
  exact List.all_eq_true.1 valid12 _ (List.mem_range.2 (kOf_lt a))
theorem elK_small (k : Nat) : (elK k).small := ⟨by show (⟨#[65]⟩ : ByteArray).size ≤ _; decide, by show (strOfNums _).size ≤ _; rw [strOfNums_size]; show 1 ≤ _; decide, by show ByteArray.empty.size ≤ _; decide⟩
theorem elsT_small (zs : List Int) : ∀ e ∈ elsT zs, e.small := fun e he => by
  obtain ⟨a, _, rfl⟩ := List.mem_map.1 he
  exact elK_small _
theorem elsT_goal (zs : List Int) : ∀ e ∈ elsT zs, e.goal = false := fun e he => by
  obtain ⟨a, _, rfl⟩ := List.mem_map.1 he
  rfl
theorem elsT_len (zs : List Int) : (elsT zs).length = zs.length := List.length_map _
theorem elsT_snoc {zs : List Int} {i : Nat} {z : Int} (h : zs[i]? = some z) : elsT (zs.take (i + 1)) = elsT (zs.take i) ++ [elK (kOf z)] := by
  unfold elsT
  rw [List.take_add_one, h, List.map_append]
  rfl
theorem tagD_get : ∀ (n : Int) (l : List ElemD) (k : Nat), (tagD n l)[k]? = (l[k]?).map fun e => { e with tag := n + (k : Int) }
  | n, [], k => by simp [tagD]
  | n, e :: l, 0 => by simp [tagD]
  | n, e :: l, k + 1 => by
    simp only [tagD, List.getElem?_cons_succ, tagD_get (n + 1) l k]
    congr 1; funext e
    congr 1; omega
theorem filt_len {α : Type} (p : α → Bool) : ∀ l : List α, (l.filter p).length + (l.filter fun x => !p x).length = l.length
  | [] => rfl
  | x :: l => by
    have := filt_len p l
    cases h : p x <;> simp [h] <;> omega
theorem ecmp_trans {a b c : ElemD} (h : a.cmp b = 0) (k : b.cmp c = 0) : a.cmp c = 0 := by
  obtain ⟨h1, h2, h3, h4⟩ := ElemD.cmp_iff.1 h
  obtain ⟨k1, k2, k3, k4⟩ := ElemD.cmp_iff.1 k
  exact ElemD.cmp_iff.2 ⟨h1.trans k1, h2.trans k2, h3.trans k3, h4.trans k4⟩
structure TgS (next : Int) (ts l : List ElemD) (r : RD) : Prop where
  err : r.err = 0
  nx : r.next = next + (r.added.length : Int)
  tag : ∀ (k : Nat) (e : ElemD), r.added[k]? = some e → e.tag = next + (k : Int)
  bef : ∀ (k : Nat) (a b : ElemD), r.added[k]? = some a → r.added[k + 1]? = some b → a.cmp b < 0
  adl : r.added.length ≤ l.length
  len : r.ts.length + r.gone.length = ts.length + r.added.length
  goal : ∀ e ∈ r.ts, e.goal = false
theorem tgS {next : Int} {ts ys l : List ElemD} (h : StI next ts ys) (hgt : ∀ e ∈ ts, e.goal = false) (hv : l.all validE = true) (hgl : ∀ e ∈ l, e.goal = false) (hl : l.length ≤ 100) {r : RD} (hr : setD 100 next ts l = r) : TgS next ts l r := by
  have hwl := sortE_len' l
  have hw := sortE_srt' l
  have hfl : (freshD (sortE l) ts).length ≤ (sortE l).length := List.length_filter_le _ _
  rw [setD_ok hv (by omega)] at hr
  subst hr
  refine ⟨rfl, ?_, ?_, ?_, ?_, ?_, ?_⟩
  · show next + ((freshD (sortE l) ts).length : Int) = next + ((tagD next (freshD (sortE l) ts)).length : Int)
    rw [tagD_len]
  · intro k e he
    have he : (tagD next (freshD (sortE l) ts))[k]? = some e := he
    rw [tagD_get] at he
    obtain ⟨x, _, rfl⟩ := Option.map_eq_some_iff.1 he
    rfl
  · intro k a b ha hb
    have ha : (tagD next (freshD (sortE l) ts))[k]? = some a := ha
    have hb : (tagD next (freshD (sortE l) ts))[k + 1]? = some b := hb
    rw [tagD_get] at ha hb
    obtain ⟨x, hx, rfl⟩ := Option.map_eq_some_iff.1 ha
    obtain ⟨y, hy, rfl⟩ := Option.map_eq_some_iff.1 hb
    exact (hw.filter _) k (k + 1) x y (by omega) hx hy
  · show (tagD next (freshD (sortE l) ts)).length ≤ l.length
    rw [tagD_len]; omega
  · show (stayD (sortE l) ts ++ tagD next (freshD (sortE l) ts)).length + (goneD (sortE l) ts).length = ts.length + (tagD next (freshD (sortE l) ts)).length
    have := filt_len (staysD (sortE l)) ts
    rw [List.length_append]
    unfold stayD goneD
    omega
  · intro e he
    rcases List.mem_append.1 (show e ∈ stayD (sortE l) ts ++ tagD next (freshD (sortE l) ts) from he) with he | he
    · exact hgt e (List.mem_filter.1 he).1
    · obtain ⟨x, hx, t, rfl⟩ := mem_tagD he
      exact hgl x (mem_sort x (List.mem_filter.1 hx).1)
theorem stays_get {l : List ElemD} {o x : ElemD} (hu : ∀ a ∈ l, ∀ b ∈ l, a.cmp b = 0 → a = b) (hx : x ∈ l) (hc : x.cmp o = 0) : staysD l o = (x.goal == o.goal) := by
  unfold staysD
  rw [getM_uniq hu hx hc]; rfl
theorem stays_of {l : List ElemD} {o : ElemD} (h : staysD l o = true) : ∃ x ∈ l, x.cmp o = 0 := by
  unfold staysD at h
  cases hg : getM ElemD.cmp l o with
  | none => rw [hg] at h; cases h
  | some x => exact ⟨x, getM_mem hg⟩
theorem tg_one {next : Int} {ts ys ys2 l : List ElemD} (h : StI next ts ys) (hgt : ∀ e ∈ ts, e.goal = false) (hv : l.all validE = true) (hgl : ∀ e ∈ l, e.goal = false) (hl : l.length ≤ 100) {r : RD} (hr : setD 100 next ts l = r) (h2 : StI r.next r.ts ys2) :
    ∀ e ∈ ts, (getM ElemD.cmp r.ts e = some e ∧ getM ElemD.cmp r.gone e = none) ∨ (getM ElemD.cmp r.ts e = none ∧ ∃ g, getM ElemD.cmp r.gone e = some g) := by
  have hwl := sortE_len' l
  have hw := sortE_srt' l
  rw [setD_ok hv (by omega)] at hr
  subst hr
  have h2 : StI _ (stayD (sortE l) ts ++ tagD next (freshD (sortE l) ts)) ys2 := h2
  intro e he
  show (getM ElemD.cmp (stayD (sortE l) ts ++ tagD next (freshD (sortE l) ts)) e = some e ∧ getM ElemD.cmp (goneD (sortE l) ts) e = none) ∨ (getM ElemD.cmp (stayD (sortE l) ts ++ tagD next (freshD (sortE l) ts)) e = none ∧ ∃ g, getM ElemD.cmp (goneD (sortE l) ts) e = some g)
  cases hs : staysD (sortE l) e with
  | true =>
    refine .inl ⟨getM_uniq h2.uniq (List.mem_append_left _ (List.mem_filter.2 ⟨he, hs⟩)) (linElem.refl e), ?_⟩
    cases hg : getM ElemD.cmp (goneD (sortE l) ts) e with
    | none => rfl
    | some y =>
      obtain ⟨k1, k2⟩ := getM_mem hg
      obtain ⟨k3, k4⟩ := List.mem_filter.1 k1
      rw [h.uniq y k3 e he k2, hs] at k4
      cases k4
  | false =>
    refine .inr ⟨?_, ?_⟩
    · cases hg : getM ElemD.cmp (stayD (sortE l) ts ++ tagD next (freshD (sortE l) ts)) e with
      | none => rfl
      | some y =>
        exfalso
        obtain ⟨k1, k2⟩ := getM_mem hg
        rcases List.mem_append.1 k1 with k1 | k1
        · obtain ⟨k3, k4⟩ := List.mem_filter.1 k1
          rw [h.uniq y k3 e he k2, hs] at k4
          cases k4
        · obtain ⟨x, hx, t, rfl⟩ := mem_tagD k1
          obtain ⟨k3, k4⟩ := List.mem_filter.1 hx
          rw [stays_get h.uniq he (ecmp_comm (show x.cmp e = 0 from k2)), hgt e he, hgl x (mem_sort x k3)] at k4
          cases k4
    · have : (getM ElemD.cmp (goneD (sortE l) ts) e).isSome = true := by
        rw [getM_isSome]
        exact List.any_eq_true.2 ⟨e, List.mem_filter.2 ⟨he, by rw [hs]; rfl⟩, decide_eq_true (linElem.refl e)⟩
      exact Option.isSome_iff_exists.1 this
theorem tg_len {next : Int} {ts ys ys2 l : List ElemD} (h : StI next ts ys) (hgt : ∀ e ∈ ts, e.goal = false) (hv : l.all validE = true) (hgl : ∀ e ∈ l, e.goal = false) (hl : l.length ≤ 100) {r : RD} (hr : setD 100 next ts l = r) (h2 : StI r.next r.ts ys2) :
    r.ts.length = (sortE l).length := by
  have hg := (tgS h hgt hv hgl hl hr).goal
  have hwl := sortE_len' l
  have hw := sortE_srt' l
  have e1 : r.ts.length = (sortE r.ts).length := by rw [← h2.len, h2.sort]
  rw [e1]
  have := un_eq hg hgl fun z => ?_
  · have := congrArg List.length this
    simpa using this
  rw [← has_sort l]
  rw [setD_ok hv (by omega)] at hr
  subst hr
  show hasC ElemD.cmp (stayD (sortE l) ts ++ tagD next (freshD (sortE l) ts)) z = _
  unfold hasC
  rw [Bool.eq_iff_iff, List.any_eq_true, List.any_eq_true]
  constructor
  · rintro ⟨y, hy, hc⟩
    have hc : y.cmp z = 0 := of_decide_eq_true hc
    rcases List.mem_append.1 hy with hy | hy
    · obtain ⟨x, hx, k⟩ := stays_of (List.mem_filter.1 hy).2
      exact ⟨x, hx, decide_eq_true (ecmp_trans k hc)⟩
    · obtain ⟨x, hx, t, rfl⟩ := mem_tagD hy
      exact ⟨x, (List.mem_filter.1 hx).1, decide_eq_true hc⟩
  · rintro ⟨w, hw', hc⟩
    have hc : w.cmp z = 0 := of_decide_eq_true hc
    cases hs : staysD ts w with
    | true =>
      obtain ⟨o, ho, k⟩ := stays_of hs
      have hst : staysD (sortE l) o = true := by
        rw [stays_get (srt_uniq hw) hw' (ecmp_comm k), hgt o ho, hgl w (mem_sort w hw')]; rfl
      exact ⟨o, List.mem_append_left _ (List.mem_filter.2 ⟨ho, hst⟩), decide_eq_true (ecmp_trans k hc)⟩
    | false =>
      have hf : w ∈ freshD (sortE l) ts := List.mem_filter.2 ⟨hw', by rw [hs]; rfl⟩
      obtain ⟨k, hk⟩ := List.mem_iff_getElem?.1 hf
      exact ⟨{ w with tag := next + (k : Int) }, List.mem_append_right _ (List.mem_of_getElem? (by rw [tagD_get, hk]; rfl)), decide_eq_true (show w.cmp z = 0 from hc)⟩
end Go.Proofs.Ytdpbjoldgiikkaa
/- Rows of rows. Plain library, no program in sight. -/
namespace Go.Sl
open Go Go.Proofs

/-- A row among rows: where it lies, and what it reads as. -/
structure RowG (α : Type) where
  a : Option Addr
  len : Nat
  cap : Nat
  zs : List α
def encRG {α : Type} (r : RowG α) : List Value := [.slice r.a r.len r.cap]
instance {α : Type} : EncLen (encRG (α := α)) 1 := ⟨fun _ => rfl, fun _ u h => by simp [encRG] at h; subst h; rfl⟩
/-- What each row reads as, for ever. -/
def prowsG {α : Type} (enc : α → List Value) (sz : Nat) (rs : List (RowG α)) : SProp := ⟨fun B _ => ∀ r ∈ rs, rdE r.a enc sz r.zs B, fun l _ h r hr => (h r hr).le l⟩
instance {α : Type} {enc : α → List Value} {sz : Nat} {rs : List (RowG α)} : Pers (prowsG enc sz rs) := ⟨fun _ _ x => x⟩
theorem G.rowG {w0 : World} {A : SProp} {L M : List SProp} {Φ : World → Prop} {α : Type} {enc : α → List Value} {sz : Nat} {rs : List (RowG α)} {r : RowG α} [tk : Take1 L (prowsG enc sz rs) M] (hr : r ∈ rs) (h : G w0 A (psl enc sz r.a r.zs :: L) Φ) : G w0 A L Φ := by
  refine G.ent (L' := psl enc sz r.a r.zs :: L) ?_ h
  refine (sl_perm tk.perm).trans (Ent.trans ?_ ((Ent.refl _).star (sl_perm tk.perm.symm)))
  exact fun B k ⟨k1, k2, d, l1, l2, x, y⟩ => ⟨hnil, k, (Dj.nil _).symm, .nil _, .refl _, x r hr, k1, k2, d, l1, l2, x, y⟩
theorem holds_rowsG {α : Type} {enc : α → List Value} {sz : Nat} {W : World} {K : List SProp} {rs : List (RowG α)} (h : holds (star (whole W) (sl K)) W) (r : ∀ q ∈ rs, rdE q.a enc sz q.zs (hp W)) : holds (star (whole W) (sl (prowsG enc sz rs :: K))) W := by
  obtain ⟨B, k, d, l, m, k1, k2, d12, l1, l2, x, y⟩ := h
  exact ⟨B, k, d, l, m, k1, k2, d12, l1, l2, x, hnil, k2, (Dj.nil _).symm, .nil _, .refl _, fun q hq => rdE.le (r q hq) x, y⟩
end Go.Sl
/- Numbers of another width, and a byte as a text. Plain library, no program in sight. -/
namespace Go.Sl
open Go Go.Proofs Go.RowKit

def encB (b : Int) : List Value := [.int .u8 b]
instance : EncLen encB 1 := ⟨fun _ => rfl, fun _ u h => by simp [encB] at h; subst h; rfl⟩
section
variable {w0 : World} {A : SProp} {L : List SProp} {ro : Option Nat} {P : Program} {Q : Exit → Act → World → Prop} {all : Array Oper} {os : List Oper} {n : Nat} {ρ : Nat → Value} {ds : List Nat}
variable {d : Option Tmp} {ty : TypeId} {pos : String} {af : Array Edge} {x : Operand} {S : Option Addr}
theorem o_convI {s t : TypeId} {k k2 : IntKind} {a c : Int} (hx : ev n ρ x = .int k a) (hs : (P.underlying s).isSome = true) (hd : P.underlying t = some (.int (P.intKind t))) (hk : P.intKind t = k2) (hc : k2.wrap a = c)
    (h : G w0 A L (fun w => runL ro P all Q os (act n (updo ρ d (.int k2 c)) ds) w)) :
    G w0 A L (fun w => runL ro P all Q ({ dst := d, op := .convert s t x, type := ty, pos := pos, after := af, guard := none } :: os) (act n ρ ds) w) :=
  o_val rfl (by intro c e; cases e) (fun w _ _ => by
    subst hk hc
    simp only [execOp]
    refine run_v ?_
    rw [hx, run_convert_int w s t k a hs hd]) h
theorem o_remT {y : Operand} {xt yt : TypeId} {k : IntKind} {a b c : Int} (hx : ev n ρ x = .int k a) (hy : ev n ρ y = .int k b) (hb : b ≠ 0) (hc : a.tmod b = c)
    (h : G w0 A L (fun w => runL ro P all Q os (act n (updo ρ d (.int k c)) ds) w)) :
    G w0 A L (fun w => runL ro P all Q ({ dst := d, op := .binOp .rem xt x y yt, type := ty, pos := pos, after := af, guard := none } :: os) (act n ρ ds) w) := o_rem hx hy hb (by rw [hc]; exact h)
theorem o_bytes1 {s t e : TypeId} {cap : Nat} {b : Int} {r : ByteArray} (hx : ev n ρ x = .slice S 1 cap) [hr : HasRd L S encB 1 [b]] (hs : P.underlying s = some (.slice e)) (he : P.underlying e = some (.int .u8)) (hd : P.underlying t = some .string) (hb : strOfNums [b] = r)
    (h : G w0 A L (fun w => runL ro P all Q os (act n (updo ρ d (.string r)) ds) w)) :
    G w0 A L (fun w => runL ro P all Q ({ dst := d, op := .convert s t x, type := ty, pos := pos, after := af, guard := none } :: os) (act n ρ ds) w) :=
  o_val rfl (by intro c e; cases e) (fun w _ hh => by
    obtain ⟨g, k, rfl, hc⟩ := hr.sees.right w hh 0 b rfl
    simp only [execOp]
    refine run_v ?_
    rw [hx, run_convert_bytes_arg w s e hs he g k 1 cap [b] rfl (fun i hi => by
      obtain rfl : i = 0 := by omega
      have := cell_of_cellH (hc 0 _ rfl)
      simpa using this) t hd, hb]) h
end
end Go.Sl
/- The law on tags, walked. -/
namespace Go.Proofs.Ytdpbjoldgiikkaa
open Go Go.Sl
attribute [local irreducible] Exit.then Exit.inBlock Code.wpIn roundPost bodyPostM runL Ret Meets MeetsD Begin

abbrev oI (U : Option Addr) (u : Nat) (l : List Int) : SProp := osl 3 encI 1 U u l
theorem HasN_spec (U : Option Addr) (u m : Nat) (l : List Int) (t : Int) (hm : l.length = m) (hl : m ≤ 1000000) (h : ∀ x ∈ l, x ≠ t) : Ctr Try.prog 25 [.slice U m u, .int .i64 t] [oI U u l] (fun v M => v = .bool false ∧ M = [oI U u l]) := by
  refine spec_of Try.func25 rfl Try.ntmps25 rfl fun w0 F => ?_
  -- hide
  -- ponder/ponderref10.Has
  subst hm
  repeat (first | refine g_endt ?_ | refine g_end ?_ | refine g_then ?_ | refine g_in_normal ?_ | refine g_then_ret ?_ | refine g_in_ret ?_ | refine g_then_exit ?_ | refine g_in_exit rfl ?_ | refine g_in_exit_ne (by decide) ?_ | refine g_seq ?_ | refine g_region ?_ | refine g_block ?_ | refine g_ret ?_ | refine g_return_n ?_ | refine g_exit ?_ | refine g_skip ?_)
  refine g_hideR fun Q_ hQ_ => ?_
  refine o_assign ?_
  refine g_end (G.imp (hQ_ .normal _) ?_)
  clear hQ_ Q_
  try refine g_then ?_
  repeat (first | refine g_endt ?_ | refine g_end ?_ | refine g_then ?_ | refine g_in_normal ?_ | refine g_then_ret ?_ | refine g_in_ret ?_ | refine g_then_exit ?_ | refine g_in_exit rfl ?_ | refine g_in_exit_ne (by decide) ?_ | refine g_seq ?_ | refine g_region ?_ | refine g_block ?_ | refine g_ret ?_ | refine g_return_n ?_ | refine g_exit ?_ | refine g_skip ?_)
  refine g_hideR fun Q_ hQ_ => ?_
  refine o_assign ?_
  refine g_end (G.imp (hQ_ .normal _) ?_)
  clear hQ_ Q_
  try refine g_then ?_
  repeat (first | refine g_endt ?_ | refine g_end ?_ | refine g_then ?_ | refine g_in_normal ?_ | refine g_then_ret ?_ | refine g_in_ret ?_ | refine g_then_exit ?_ | refine g_in_exit rfl ?_ | refine g_in_exit_ne (by decide) ?_ | refine g_seq ?_ | refine g_region ?_ | refine g_block ?_ | refine g_ret ?_ | refine g_return_n ?_ | refine g_exit ?_ | refine g_skip ?_)
  refine g_loop (σ := {i : Nat // i ≤ l.length}) (S := fun i => [(0, .slice U l.length u), (1, .int .i64 t), (5, .int .i64 (i.1 : Int))]) (H := fun _ => [oI U u l]) (μ := fun i => l.length - i.1) (s0 := ⟨0, Nat.zero_le _⟩) (Sat.mem ⟨rfl, rfl, rfl, trivial⟩) ?_
  rintro ⟨i, hi⟩ ρ'
  dsimp only at hi ⊢
  repeat (first | refine g_endt ?_ | refine g_end ?_ | refine g_then ?_ | refine g_in_normal ?_ | refine g_then_ret ?_ | refine g_in_ret ?_ | refine g_then_exit ?_ | refine g_in_exit rfl ?_ | refine g_in_exit_ne (by decide) ?_ | refine g_seq ?_ | refine g_region ?_ | refine g_block ?_ | refine g_ret ?_ | refine g_return_n ?_ | refine g_exit ?_ | refine g_skip ?_)
  refine g_hideR fun Q_ hQ_ => ?_
  refine o_move ?_
  refine o_move ?_
  refine o_len rfl rfl ?_
  refine o_lss rfl rfl ?_
  refine g_end (G.imp (hQ_ .normal _) ?_)
  clear hQ_ Q_
  try refine g_then ?_
  by_cases hin : i < l.length
  · first | refine g_seq (g_cond_t rfl (by first | rfl | (simp; done) | (simp; omega) | (simp; assumption)) ?_) | refine g_cond_t rfl (by first | rfl | (simp; done) | (simp; omega) | (simp; assumption)) ?_
    obtain ⟨x, hx⟩ : ∃ x, l[i]? = some x := ⟨_, List.getElem?_eq_getElem hin⟩
    have hne := h x (List.mem_of_getElem? hx)
    repeat (first | refine g_endt ?_ | refine g_end ?_ | refine g_then ?_ | refine g_in_normal ?_ | refine g_then_ret ?_ | refine g_in_ret ?_ | refine g_then_exit ?_ | refine g_in_exit rfl ?_ | refine g_in_exit_ne (by decide) ?_ | refine g_seq ?_ | refine g_region ?_ | refine g_block ?_ | refine g_ret ?_ | refine g_return_n ?_ | refine g_exit ?_ | refine g_skip ?_)
    refine g_hideR fun Q_ hQ_ => ?_
    refine o_move ?_
    refine o_move ?_
    refine o_indexR (ys := l) (i := i) rfl rfl rfl hin rfl rfl ?_
    refine o_loadE0 (ys := l) (v := .int .i64 x) rfl hx rfl ?_
    refine o_move ?_
    refine o_eqlT (t := false) rfl rfl (by simpa using hne) ?_
    refine g_end (G.imp (hQ_ .normal _) ?_)
    clear hQ_ Q_
    try refine g_then ?_
    first | refine g_seq (g_cond_f rfl (by first | rfl | (simp; done) | (simp; omega) | (simp; assumption)) ?_) | refine g_cond_f rfl (by first | rfl | (simp; done) | (simp; omega) | (simp; assumption)) ?_
    repeat (first | refine g_endt ?_ | refine g_end ?_ | refine g_then ?_ | refine g_in_normal ?_ | refine g_then_ret ?_ | refine g_in_ret ?_ | refine g_then_exit ?_ | refine g_in_exit rfl ?_ | refine g_in_exit_ne (by decide) ?_ | refine g_seq ?_ | refine g_region ?_ | refine g_block ?_ | refine g_ret ?_ | refine g_return_n ?_ | refine g_exit ?_ | refine g_skip ?_)
    repeat (first | refine g_endt ?_ | refine g_end ?_ | refine g_then ?_ | refine g_in_normal ?_ | refine g_then_ret ?_ | refine g_in_ret ?_ | refine g_then_exit ?_ | refine g_in_exit rfl ?_ | refine g_in_exit_ne (by decide) ?_ | refine g_seq ?_ | refine g_region ?_ | refine g_block ?_ | refine g_ret ?_ | refine g_return_n ?_ | refine g_exit ?_ | refine g_skip ?_)
    refine g_hideR fun Q_ hQ_ => ?_
    refine o_move ?_
    refine o_add (c := ((i + 1 : Nat) : Int)) rfl rfl (by omega) (by omega) (by omega) ?_
    refine o_assign ?_
    refine g_end (G.imp (hQ_ .normal _) ?_)
    clear hQ_ Q_
    try refine g_then ?_
    repeat (first | refine g_endt ?_ | refine g_end ?_ | refine g_then ?_ | refine g_in_normal ?_ | refine g_then_ret ?_ | refine g_in_ret ?_ | refine g_then_exit ?_ | refine g_in_exit rfl ?_ | refine g_in_exit_ne (by decide) ?_ | refine g_seq ?_ | refine g_region ?_ | refine g_block ?_ | refine g_ret ?_ | refine g_return_n ?_ | refine g_exit ?_ | refine g_skip ?_)
    exact g_meets ⟨i + 1, hin⟩ (by show l.length - (i + 1) < l.length - i; omega) (Sat.mem ⟨rfl, rfl, rfl, trivial⟩)
  · first | refine g_seq (g_cond_f rfl (by simp; omega) ?_) | refine g_cond_f rfl (by simp; omega) ?_
    repeat (first | refine g_endt ?_ | refine g_end ?_ | refine g_then ?_ | refine g_in_normal ?_ | refine g_then_ret ?_ | refine g_in_ret ?_ | refine g_then_exit ?_ | refine g_in_exit rfl ?_ | refine g_in_exit_ne (by decide) ?_ | refine g_seq ?_ | refine g_region ?_ | refine g_block ?_ | refine g_ret ?_ | refine g_return_n ?_ | refine g_exit ?_ | refine g_skip ?_)
    refine g_hideR fun Q_ hQ_ => ?_
    refine o_assign ?_
    refine g_end (G.imp (hQ_ .normal _) ?_)
    clear hQ_ Q_
    try refine g_then ?_
    repeat (first | refine g_endt ?_ | refine g_end ?_ | refine g_then ?_ | refine g_in_normal ?_ | refine g_then_ret ?_ | refine g_in_ret ?_ | refine g_then_exit ?_ | refine g_in_exit rfl ?_ | refine g_in_exit_ne (by decide) ?_ | refine g_seq ?_ | refine g_region ?_ | refine g_block ?_ | refine g_ret ?_ | refine g_return_n ?_ | refine g_exit ?_ | refine g_skip ?_)
    exact ret1 (K := [oI U u l]) rfl (resT rfl) ⟨rfl, rfl⟩
theorem FindS_spec (A : Option Addr) (n c : Nat) (l : List ElemD) (e : ElemD) (hl : l.length = n) (hm : n ≤ 1000000) {x : ElemD} (h : getM ElemD.cmp l e = some x) : Ctr Try.prog 27 [.slice A n c, e.val] [psl encE 12 A l]
    (fun v M => v = .tuple #[x.val, .bool true] ∧ M = []) := FindEK_spec A n c l e hl hm h
theorem FindZ_spec (A : Option Addr) (n c : Nat) (l : List ElemD) (e : ElemD) (hl : l.length = n) (hm : n ≤ 1000000) (h : getM ElemD.cmp l e = none) : Ctr Try.prog 27 [.slice A n c, e.val] [psl encE 12 A l]
    (fun v M => v = .tuple #[ElemD.zero.val, .bool false] ∧ M = []) := FindEK_spec A n c l e hl hm h
theorem BeforeT_spec (a b : ElemD) (h : a.cmp b < 0) : Ctr Try.prog 26 [a.val, b.val] [] (fun v M => v = .bool true ∧ M = []) := by
  have := BeforeE_spec a b; rwa [decide_eq_true h] at this
theorem EK_spec (k : Nat) : Ctr Try.prog 17 [.int .i64 ((1 + k % 3 : Nat) : Int), .string (strOfNums [((97 + k / 3 : Nat) : Int)]), (symN (k : Int)).val] [] (fun v M => v = (elK k).val ∧ M = []) := E_spec _ _ _
theorem u8_wrap {m : Nat} (h : m < 256) : IntKind.u8.wrap (m : Int) = (m : Int) := by
  unfold IntKind.wrap
  show (if false && _ then _ else (m : Int) % (2 ^ 8 : Int)) = _
  rw [Bool.false_and, if_neg (by decide)]
  omega
theorem kOf_tdiv (k : Nat) : ((k : Int)).tdiv 3 = ((k / 3 : Nat) : Int) := (Int.ofNat_tdiv k 3).symm
theorem kOf_tmod (k : Nat) : ((k : Int)).tmod 3 = ((k % 3 : Nat) : Int) := (Int.ofNat_tmod k 3).symm
end Go.Proofs.Ytdpbjoldgiikkaa
