/- A function's contract from its body; a range over a function. Plain library, no program in sight. -/
import Derived.Test.YtlognaddmbolgaaSl3
namespace Go.Sl
open Go Go.Proofs

/-! ### A function's contract, from its body -/
/-- The blocks for the rounds' deferred calls (none is ever laid there). -/
def dfr (ds : List Nat) : SProp := sl (ds.map fun D => blk D (.deferred (some [])))
/-- What is asked where a function returns. -/
def Ret (w0 : World) (P : Program) (fn : Func) (F : SProp) (R : Value → List SProp → Prop) : Exit → Act → World → Prop :=
  bodyPostM (WF none) 0 P fn (fun e w' => ∃ v L', e = .returned v ∧ R v L' ∧ holds (star F (sl L')) w' ∧ Std w0 w')
def ent : List Value → Nat → Value
  | [], _ => undef
  | v :: _, 0 => v
  | _ :: l, i + 1 => ent l i
theorem ent_getD : ∀ (l : List Value) (i : Nat), l.toArray.getD i undef = ent l i
  | [], i => by simp [ent]
  | v :: l, 0 => by simp [ent]
  | v :: l, i + 1 => by simpa [ent] using ent_getD l i

section
variable {w0 : World} {P : Program} {f : FuncId} {fn : Func} {c : Code} {n : Nat} {ρ : Nat → Value} {ds : List Nat} {L : List SProp} {F : SProp} {R : Value → List SProp → Prop}
theorem spec_of {args : List Value} (hf : P.funcs[f]? = some fn) (hb : fn.body = some c) (hn : fn.ntmps = n) (ha : Nat.ble args.length n = true)
    (h : ∀ w0 F, G w0 (star (dfr []) F) L (fun w => c.wpIn (WF none) 0 P (Ret w0 P fn F R) (act n (ent args) []) w)) : Ctr P f args L R := by
  intro w F hh
  refine (callsWF (ro := none) (n := 0)).1 (callsIn_of_wp_marks hf hb trivial ?_)
  rw [hn]
  have := h w F w (.refl w) (hh.ent ((Ent.emp_left F).star (Ent.refl _)))
  rw [entry_act n args.toArray (by simpa using Nat.le_of_ble_eq_true ha)]
  have e : (fun i => args.toArray.getD i undef) = ent args := funext fun i => ent_getD args i
  rw [e]
  exact this
theorem leaves (tmps : Array Value) {K : Ending → World → Prop} : ∀ (ds : List Nat) (w : World), Std w0 w → holds (star (star (dfr ds) F) (sl L)) w →
    (∀ w', Std w0 w' → holds (star F (sl L)) w' → ∃ v, (results fn tmps).run P w' = .ok v w' ∧ K (.returned v) w') → LeavesInM (WF none) 0 P fn tmps K (ds.map markOf) .returning w
  | [], w, hw, hh, h => h w hw (hh.ent ((Ent.right (dfr []) F).star (Ent.refl _)))
  | D :: ds, w, hw, hh, h => by
    have h1 : holds (star (blk D (.deferred (some []))) (star (star (dfr ds) F) (sl L))) w :=
      hh.ent (((Ent.assoc (blk D (.deferred (some []))) (dfr ds) F).star (Ent.refl _)).trans (Ent.assoc _ _ _))
    have hb : w.heap[D]? = some (.deferred (some [])) := (Sees.left (sees_blk D _)) w h1
    refine ⟨by simp, .inl ⟨D, _, rfl, run_takeDeferred hb, ?_⟩⟩
    exact leaves tmps ds _ (hw.trans (.putObj _ _ _)) ((h1.putObj (.deferred none)).ent (Ent.right _ _)) h
theorem g_return (h : ∀ w, Std w0 w → holds (star F (sl L)) w → ∃ v L', (results fn (act n ρ ds).tmps).run P w = .ok v w ∧ R v L' ∧ Ent (sl L) (sl L')) :
    G w0 (star (dfr ds) F) L (fun w => Ret w0 P fn F R .ret (act n ρ ds) w) := fun w hw hh =>
  leaves _ ds w hw hh fun w' hw' hh' => by
    obtain ⟨v, L', hr, hR, he⟩ := h w' hw' hh'
    exact ⟨v, hr, v, L', rfl, hR, hh'.ent ((Ent.refl F).star he), hw'⟩
theorem g_return_n (h : G w0 (star (dfr ds) F) L (fun w => Ret w0 P fn F R .ret (act n ρ ds) w)) : G w0 (star (dfr ds) F) L (fun w => Ret w0 P fn F R .normal (act n ρ ds) w) := h

/-- What a result reads as. -/
def ResV (P : Program) (n : Nat) (ρ : Nat → Value) (w : World) : ResultVar → Value → Prop
  | .tmp t, v => ev n ρ (.tmp t) = v
  | .cell a t, v => ∃ ad, ev n ρ (.tmp a) = .pointer (some ad) ∧ (loadVar t ad).run P w = .ok v w
theorem tmp_getD (n : Nat) (ρ : Nat → Value) (ds : List Nat) (t : Nat) : (act n ρ ds).tmps.getD t undef = ev n ρ (.tmp t) := congrFun (act_eval n ρ ds) (.tmp t)
def resF (tmps : Array Value) (r : ResultVar) : Sem Value := match r with
  | .tmp t => pure (tmps.getD t undef)
  | .cell a t => do loadVar t (← asAddr (tmps.getD a undef))
theorem results_eq (fn : Func) (tmps : Array Value) : results fn tmps = (do let vs ← fn.results.mapM (resF tmps); pure (if h : vs.size = 1 then vs[0] else .tuple vs)) := rfl
theorem run_res {w : World} {r : ResultVar} {v : Value} (h : ResV P n ρ w r v) : (resF (act n ρ ds).tmps r).run P w = .ok v w := by
  cases r with
  | tmp t => simp only [ResV] at h; simp only [resF, tmp_getD, h]; rfl
  | cell a t =>
    obtain ⟨ad, h1, h2⟩ := h
    simp only [resF, tmp_getD, h1]
    simp [asAddr, h2]
theorem results0 {w : World} (h : fn.results = #[]) : (results fn (act n ρ ds).tmps).run P w = .ok (.tuple #[]) w := results_none h _ _ _
theorem results1 {w : World} {r : ResultVar} {v : Value} (h : fn.results = #[r]) (hv : ResV P n ρ w r v) : (results fn (act n ρ ds).tmps).run P w = .ok v w := by
  have e1 := run_res (ds := ds) hv
  rw [results_eq, h]
  simp [e1]
theorem results2 {w : World} {r1 r2 : ResultVar} {v1 v2 : Value} (h : fn.results = #[r1, r2]) (h1 : ResV P n ρ w r1 v1) (h2 : ResV P n ρ w r2 v2) : (results fn (act n ρ ds).tmps).run P w = .ok (.tuple #[v1, v2]) w := by
  have e1 := run_res (ds := ds) h1
  have e2 := run_res (ds := ds) h2
  rw [results_eq, h]
  simp [e1, e2]
theorem results3 {w : World} {r1 r2 r3 : ResultVar} {v1 v2 v3 : Value} (h : fn.results = #[r1, r2, r3]) (h1 : ResV P n ρ w r1 v1) (h2 : ResV P n ρ w r2 v2) (h3 : ResV P n ρ w r3 v3) :
    (results fn (act n ρ ds).tmps).run P w = .ok (.tuple #[v1, v2, v3]) w := by
  have e1 := run_res (ds := ds) h1
  have e2 := run_res (ds := ds) h2
  have e3 := run_res (ds := ds) h3
  rw [results_eq, h]
  simp [e1, e2, e3]

/-- What a result is known to be off a list. -/
class ResK (P : Program) (n : Nat) (ρ : Nat → Value) (L : List SProp) (r : ResultVar) (v : outParam Value) : Prop where
  res : ∀ w, holds (sl L) w → ResV P n ρ w r v
theorem resT {t : Tmp} {v : Value} (h : ev n ρ (.tmp t) = v) : ResK P n ρ L (.tmp t) v := ⟨fun _ _ => h⟩
theorem resC1 {a : Tmp} {t e : TypeId} {b k : Nat} {cs : Array Value} {v : Value} {fz : Nat × Nat} (h : ev n ρ (.tmp a) = .pointer (some ⟨b, k, none⟩)) [ts : TyS P t] [hb : HasBlk L b (.cells cs e fz)] (hv : cs[k]? = some v) : ResK P n ρ L (.cell a t) v :=
  ⟨fun w hh => ⟨_, h, by
    have hc : w.cell? ⟨b, k, none⟩ = some v := by
      have hbw : w.heap[b]? = some (.cells cs e fz) := hb.sees w hh
      simp [World.cell?, hbw, hv]
    simp [loadVar, ts.agg, run_load, hc]⟩⟩
theorem resCN {a : Tmp} {t e : TypeId} {b k sz : Nat} {cs : Array Value} {v : Value} {fz : Nat × Nat} (h : ev n ρ (.tmp a) = .pointer (some ⟨b, k, none⟩)) [ts : TyA P t sz] [hb : HasBlk L b (.cells cs e fz)] (hk : Nat.ble (k + sz) cs.size = true) (hv : .agg (cs.extract k (k + sz)) = v) : ResK P n ρ L (.cell a t) v :=
  ⟨fun w hh => ⟨_, h, by rw [← hv]; exact run_loadN (hb.sees w hh) (Nat.le_of_ble_eq_true hk)⟩⟩

section
variable {K M : List SProp} [tk : Take L K M]
include tk
theorem take_ent : Ent (sl L) (sl K) := (sl_perm tk.perm).trans ((sl_append_to K M).trans (Ent.left _ _))
theorem ret0 (hr : fn.results = #[]) (hR : R (.tuple #[]) K) : G w0 (star (dfr ds) F) L (fun w => Ret w0 P fn F R .ret (act n ρ ds) w) :=
  g_return fun _ _ _ => ⟨_, K, results0 hr, hR, take_ent⟩
theorem ret1 {r : ResultVar} {v : Value} (hr : fn.results = #[r]) (h1 : ResK P n ρ L r v) (hR : R v K) : G w0 (star (dfr ds) F) L (fun w => Ret w0 P fn F R .ret (act n ρ ds) w) :=
  g_return fun w _ hh => ⟨_, K, results1 hr (h1.res w (hh.ent (Ent.right _ _))), hR, take_ent⟩
theorem ret2 {r1 r2 : ResultVar} {v1 v2 : Value} (hr : fn.results = #[r1, r2]) (h1 : ResK P n ρ L r1 v1) (h2 : ResK P n ρ L r2 v2) (hR : R (.tuple #[v1, v2]) K) : G w0 (star (dfr ds) F) L (fun w => Ret w0 P fn F R .ret (act n ρ ds) w) :=
  g_return fun w _ hh => ⟨_, K, results2 hr (h1.res w (hh.ent (Ent.right _ _))) (h2.res w (hh.ent (Ent.right _ _))), hR, take_ent⟩
theorem ret3 {r1 r2 r3 : ResultVar} {v1 v2 v3 : Value} (hr : fn.results = #[r1, r2, r3]) (h1 : ResK P n ρ L r1 v1) (h2 : ResK P n ρ L r2 v2) (h3 : ResK P n ρ L r3 v3) (hR : R (.tuple #[v1, v2, v3]) K) : G w0 (star (dfr ds) F) L (fun w => Ret w0 P fn F R .ret (act n ρ ds) w) :=
  g_return fun w _ hh => ⟨_, K, results3 hr (h1.res w (hh.ent (Ent.right _ _))) (h2.res w (hh.ent (Ent.right _ _))) (h3.res w (hh.ent (Ent.right _ _))), hR, take_ent⟩
end
end

/-! ### A range over a function -/
/-- A call of yield: the caller's state goes on, or it has said 'no more'. -/
def Yields (P : Program) (l : Nat) (vs : List Value) (M M' Mx : List SProp) : Prop :=
  ∀ (w : World) (F : SProp), holds (star F (sl M)) w → YieldAt (WF none) 0 P l vs.toArray w fun e w' =>
    Std w w' ∧ ((e = .returned (.bool true) ∧ holds (star F (sl M')) w') ∨ (e = .returned (.bool false) ∧ holds (star F (sl Mx)) w'))
/-- An iterator's contract: it tells xs, one behind the other, till it is told 'no more'. -/
def Iter (P : Program) (gf : FuncId) (lb : List Value) {α : Type} (enc : α → List Value) (xs : List α) (J0 : List SProp) : Prop :=
  ∀ (l : Nat) (J Jx : List α → List SProp), J [] = J0 → (∀ pre x, (pre ++ [x]) <+: xs → Yields P l (enc x) (J pre) (J (pre ++ [x])) (Jx (pre ++ [x]))) →
    Ctr P gf (.func (.yield l) #[] #[] :: lb) J0 (fun _ L' => L' = J xs ∨ ∃ pre, pre <+: xs ∧ L' = Jx pre)

section
variable {w0 : World} {A : SProp} {L : List SProp} {ro : Option Nat} {P : Program} {Q : Exit → Act → World → Prop} {all : Array Oper} {os : List Oper} {n : Nat} {ρ : Nat → Value} {ds : List Nat}
variable {d : Option Tmp} {ty : TypeId} {pos : String} {af : Array Edge}
theorem o_yield {args : List Operand} {tys : Array TypeId} {vs : List Value} {cal : Operand} {l : Nat} {K M K' Kx : List SProp} (y : Yields P l vs K K' Kx)
    (hf : ev n ρ cal = .func (.yield l) #[] #[]) (ha : args.map (ev n ρ) = vs) [t : Take L K M]
    (h1 : G w0 A (K' ++ M) (fun w => runL ro P all Q os (act n (updo ρ d (.bool true)) ds) w)) (h0 : G w0 A (Kx ++ M) (fun w => runL ro P all Q os (act n (updo ρ d (.bool false)) ds) w)) :
    G w0 A L (fun w => runL ro P all Q ({ dst := d, op := .call { callee := .value cal, args := args.toArray, argTypes := tys }, type := ty, pos := pos, after := af, guard := none } :: os) (act n ρ ds) w) := by
  refine o_run rfl fun w hw hh => ?_
  refine ⟨fun _ _ => trivial, ?_⟩
  rw [Oper.semAt_eq _ _ _ (by intro c e; cases e), act_eval]
  have hh' : holds (star (star A (sl M)) (sl K)) w := by
    refine hh.ent ?_
    refine ((Ent.refl A).star ((sl_perm t.perm).trans (sl_append_to K M))).trans ?_
    exact ((Ent.refl A).star (Ent.comm _ _)).trans (Ent.assoc' _ _ _)
  obtain ⟨fn, tmps, assign, body, hy, hR⟩ := y w _ hh'
  have hrun : (execOp (ev n ρ) { dst := d, op := .call { callee := .value cal, args := args.toArray, argTypes := tys }, type := ty, pos := pos, after := af, guard := none }).run P w = .ok (.round l fn tmps assign body) w := by
    simp only [execOp, resolve, Deferred.ofValue, hf, List.map_toArray, ha]
    simp [invoke, hy]
  rw [hrun]
  refine ⟨fun h => (by cases h), ?_⟩
  have hR' : RoundIn (WF ro) (0 - 1) P l fn tmps assign body w _ := hR
  refine hR'.mono ?_
  have back : ∀ X : List SProp, Ent (star (star A (sl M)) (sl X)) (star A (sl (X ++ M))) := fun X =>
    (Ent.assoc _ _ _).trans ((Ent.refl A).star ((Ent.comm _ _).trans (sl_append_of _ _)))
  rintro e w' ⟨s, ⟨rfl, x⟩ | ⟨rfl, x⟩⟩
  · show runL ro P all Q os ((act n ρ ds).put d _) w'
    rw [act_put]
    exact h1 w' (hw.trans s) (x.ent (back _))
  · show runL ro P all Q os ((act n ρ ds).put d _) w'
    rw [act_put]
    exact h0 w' (hw.trans s) (x.ent (back _))

/-- A loop's record. -/
def rec (r : Loop) (st : LoopState) (pe : Option Code) : Loop := { r with state := st, pending := pe }
def RR (w0 : World) (l : Nat) (r : Loop) (F : SProp) (M : List SProp) (Mx : Code → List SProp) (e : Ending) (w' : World) : Prop :=
  Std w0 w' ∧ ((e = .returned (.bool true) ∧ holds (star F (sl (blk l (.loop (rec r .ready none)) :: M))) w') ∨ (e = .returned (.bool false) ∧ holds (star F (sl [ex fun c => sl (blk l (.loop (rec r .done (some c))) :: Mx c)])) w'))
def Begin (w0 : World) (P : Program) (l : Nat) (r : Loop) (F : SProp) (M : List SProp) (Mx : Code → List SProp) (body : Code) (a : Act) (w : World) : Prop :=
  ∃ w2, (Instr.beginRound l).run P w = .ok () w2 ∧ body.wpIn (WF (some l)) 0 P (roundPost P l (RR w0 l r F M Mx)) a w2
def NoExit : Exit → Act → World → Prop := fun _ _ _ => False
variable {l : Nat} {r : Loop} {F : SProp} {M : List SProp} {Mx : Code → List SProp} {body : Code} {a : Act}
theorem g_begin (h : G w0 (star (blk l (.loop (rec r .busy none))) F) L (fun w => body.wpIn (WF (some l)) 0 P (roundPost P l (RR w0 l r F M Mx)) a w)) :
    G w0 (star (blk l (.loop (rec r .ready none))) F) L (fun w => Begin w0 P l r F M Mx body a w) := fun w hw hh => by
  have hb : w.heap[l]? = some (.loop (rec r .ready none)) := (Sees.left (Sees.left (sees_blk l _))) w hh
  refine ⟨_, run_beginRound hb rfl, ?_⟩
  exact h _ (hw.trans (.putObj _ _ _)) (((hh.ent (Ent.assoc _ _ _)).putObj _).ent (Ent.assoc' _ _ _))
theorem round_put {K : List SProp} {w : World} {st : LoopState} {j : Option Code} (hh : holds (star (star (blk l (.loop (rec r .busy none))) F) (sl L)) w) (he : Ent (sl L) (sl K)) :
    holds (star F (sl (blk l (.loop (rec r st j)) :: K))) (w.putObj l (.loop (rec r st j))) := by
  have h1 := ((hh.ent (Ent.assoc _ _ _)).putObj (.loop (rec r st j)))
  refine h1.ent ?_
  exact ((Ent.refl _).star ((Ent.refl F).star he)).trans (Ent.swap _ _ _)
theorem g_next {K : List SProp} [tk : Take L M K] : G w0 (star (blk l (.loop (rec r .busy none))) F) L (fun w => roundPost P l (RR w0 l r F M Mx) .normal a w) := fun w hw hh => by
  have hb : w.heap[l]? = some (.loop (rec r .busy none)) := (Sees.left (Sees.left (sees_blk l _))) w hh
  exact ⟨_, _, run_endRound none hb, hw.trans (.putObj _ _ _), .inl ⟨rfl, round_put hh take_ent⟩⟩
theorem round_ex {c : Code} {w : World} {B : SProp} (h : holds (star B (sl (blk l (.loop (rec r .done (some c))) :: Mx c))) w) : holds (star B (sl [ex fun c => sl (blk l (.loop (rec r .done (some c))) :: Mx c)])) w :=
  h.ent ((Ent.refl B).star ((show Ent _ (ex fun c => sl (blk l (.loop (rec r .done (some c))) :: Mx c)) from fun _ _ x => ⟨c, x⟩).trans (sl_one_of _)))
theorem g_leave_ret {K : List SProp} [tk : Take L (Mx .ret) K] : G w0 (star (blk l (.loop (rec r .busy none))) F) L (fun w => roundPost P l (RR w0 l r F M Mx) .ret a w) := fun w hw hh => by
  have hb : w.heap[l]? = some (.loop (rec r .busy none)) := (Sees.left (Sees.left (sees_blk l _))) w hh
  exact ⟨_, _, run_endRound (some .ret) hb, hw.trans (.putObj _ _ _), .inr ⟨rfl, round_ex (round_put hh take_ent)⟩⟩
theorem g_leave_exit {i : Nat} {K : List SProp} [tk : Take L (Mx (.exit i)) K] : G w0 (star (blk l (.loop (rec r .busy none))) F) L (fun w => roundPost P l (RR w0 l r F M Mx) (.exit i) a w) := fun w hw hh => by
  have hb : w.heap[l]? = some (.loop (rec r .busy none)) := (Sees.left (Sees.left (sees_blk l _))) w hh
  exact ⟨_, _, run_endRound (some (.exit i)) hb, hw.trans (.putObj _ _ _), .inr ⟨rfl, round_ex (round_put hh take_ent)⟩⟩

def updz (ρ : Nat → Value) : List Nat → List Value → Nat → Value
  | p :: ps, v :: vs => updz (upd ρ p v) ps vs
  | _, _ => ρ
theorem zip_tmps_l : ∀ (ps : List Nat) (vs : List Value) (ρ : Nat → Value) (ds : List Nat), (ps.zip vs).foldl (fun t (x : Nat × Value) => t.setIfInBounds x.1 x.2) (act n ρ ds).tmps = (act n (updz ρ ps vs) []).tmps
  | [], _, ρ, ds => rfl
  | _ :: _, [], ρ, ds => rfl
  | p :: ps, v :: vs, ρ, ds => by
    have h := zip_tmps_l ps vs (upd ρ p v) ds
    have e : (act n ρ ds).tmps.setIfInBounds p v = (act n (upd ρ p v) ds).tmps := congrArg Act.tmps (act_put n ρ ds (some p) v)
    simp only [List.zip_cons_cons, List.foldl_cons, updz]
    rw [e]
    exact h
theorem zip_tmps (ps : List Nat) (vs : List Value) (ρ : Nat → Value) (ds : List Nat) : (ps.toArray.zip vs.toArray).foldl (fun t (p, v) => t.setIfInBounds p v) (act n ρ ds).tmps = (act n (updz ρ ps vs) []).tmps := by
  rw [← zip_tmps_l ps vs ρ ds, List.zip_toArray, List.foldl_toArray]

/-- The iterator's call, with the loop's record laid. -/
theorem iter_core {α : Type} {gf : FuncId} {lb : List Value} {enc : α → List Value} {xs : List α} {ps : List Nat} {assign : Code} (J : List α → List SProp) (Jx : Code → List α → List SProp)
    (hit : ∀ K, Iter P gf lb enc xs (K :: J [])) (hps : ∀ x, (enc x).length = ps.length) (hrt : r.tmps = (act n ρ ds).tmps) (hrp : r.params = ps.toArray) (hra : r.assign = assign) (hrb : r.body = body)
    (hround : ∀ w0 F pre x, (pre ++ [x]) <+: xs → G w0 (star (blk l (.loop (rec r .ready none))) F) (J pre) (fun w => assign.wpIn (WF (some l)) 0 P (Exit.then (Begin w0 P l r F (J (pre ++ [x])) (fun c => Jx c (pre ++ [x])) body) NoExit) (act n (updz ρ ps (enc x)) []) w))
    {w : World} (hh : holds (star A (sl (blk l (.loop (rec r .ready none)) :: J []))) w) :
    Calls P gf (.func (.yield l) #[] #[] :: lb).toArray w fun e w' => (∃ v, e = .returned v) ∧ Std w w' ∧
      (holds (star A (sl (blk l (.loop (rec r .ready none)) :: J xs))) w' ∨ ∃ c pre, pre <+: xs ∧ holds (star A (sl (blk l (.loop (rec r .done (some c))) :: Jx c pre))) w') := by
  refine (hit (blk l (.loop (rec r .ready none))) l (fun pre => blk l (.loop (rec r .ready none)) :: J pre) (fun pre => [ex fun c => sl (blk l (.loop (rec r .done (some c))) :: Jx c pre)]) rfl ?_ w A hh).mono ?_
  · intro pre x hpre w1 F1 h1
    have hb : w1.heap[l]? = some (.loop (rec r .ready none)) := (Sees.right (Sees.left (sees_blk l _))) w1 h1
    have hy := run_yield (P := P) (args := (enc x).toArray) hb (by simp [rec, hrp, hps])
    refine ⟨_, _, _, _, hy, roundIn_of_wpIn trivial ?_⟩
    have h2 := hround w1 F1 pre x hpre w1 (.refl _) (h1.ent ((Ent.assoc' _ _ _).trans ((Ent.comm _ _).star (Ent.refl _))))
    have et : ({ tmps := ((rec r .ready none).params.zip (enc x).toArray).foldl (fun t (p, v) => t.setIfInBounds p v) (rec r .ready none).tmps, defers := [] } : Act) = act n (updz ρ ps (enc x)) [] := by
      have e1 : (rec r .ready none).params = ps.toArray := hrp
      have e2 : (rec r .ready none).tmps = (act n ρ ds).tmps := hrt
      rw [e1, e2, zip_tmps ps (enc x) ρ ds]
      rfl
    have ea : (rec r .ready none).assign = assign := hra
    have eb : (rec r .ready none).body = body := hrb
    rw [et, ea, eb]
    refine wpIn_mono h2 ?_
    intro e a' w' hq
    cases e with
    | normal => exact hq
    | _ => exact hq.elim
  · rintro e w' ⟨v, L', rfl, hr, hx, s⟩
    refine ⟨⟨v, rfl⟩, s, ?_⟩
    rcases hr with rfl | ⟨pre, hp, rfl⟩
    · exact .inl hx
    · obtain ⟨c, hc⟩ := (hx.ent (((Ent.refl A).star (sl_one_to _)).trans (Ent.comm _ _))).ex
      exact .inr ⟨c, pre, hp, hc.ent (Ent.comm _ _)⟩

/-- 'for .. := range g { .. }' in a function's own text. -/
theorem g_range {α : Type} {g : Operand} {ps : List Tmp} {assign : Code} {gf : FuncId} {lb : List Value} (hg : ev n ρ g = .func (.func gf) #[] lb.toArray) [en : En P gf] {enc : α → List Value} {xs : List α}
    (J : List α → List SProp) (Jx : Code → List α → List SProp) (hit : ∀ K, Iter P gf lb enc xs (K :: J [])) (hps : ∀ x, (enc x).length = ps.length) {K : List SProp} [tk : Take L (J []) K]
    (hround : ∀ w0 F l r pre x, (pre ++ [x]) <+: xs → G w0 (star (blk l (.loop (rec r .ready none))) F) (J pre) (fun w => assign.wpIn (WF (some l)) 0 P (Exit.then (Begin w0 P l r F (J (pre ++ [x])) (fun c => Jx c (pre ++ [x])) body) NoExit) (act n (updz ρ ps (enc x)) []) w))
    (hdone : ∀ D, G w0 (star (dfr (D :: ds)) F) (J xs) (fun w => Q .normal (act n ρ (D :: ds)) w))
    (hstop : ∀ D c pre, pre <+: xs → G w0 (star (dfr (D :: ds)) F) (Jx c pre) (fun w => c.wpIn (WF none) 0 P Q (act n ρ (D :: ds)) w)) :
    G w0 (star (dfr ds) F) L (fun w => (Code.rangeFunc g ps.toArray assign body).wpIn (WF none) 0 P Q (act n ρ ds) w) := by
  intro w hw hh
  refine wpIn_rangeFunc ?_
  intro fn _
  have hh1 := (((hh.ent ((Ent.refl _).star (take_ent (K := J [])))).alloc (.deferred (some []))).alloc (.loop (rec { state := .ready, pending := none, fn := fn, tmps := (act n ρ ds).tmps, params := ps.toArray, assign := assign, body := body, defers := w.heap.size } .ready none)))
  rw [World.size_alloc] at hh1
  refine ⟨w.heap.size + 1, [markOf w.heap.size], ((w.alloc (.deferred (some []))).alloc (.loop { state := .ready, pending := none, fn := fn, tmps := (act n ρ ds).tmps, params := ps.toArray, assign := assign, body := body, defers := w.heap.size })), { target := .fn (.func gf) lb.toArray, args := #[.func (.yield (w.heap.size + 1)) #[] #[]] }, ((w.alloc (.deferred (some []))).alloc (.loop { state := .ready, pending := none, fn := fn, tmps := (act n ρ ds).tmps, params := ps.toArray, assign := assign, body := body, defers := w.heap.size })), gf, (.func (.yield (w.heap.size + 1)) #[] #[] :: lb).toArray, ((w.alloc (.deferred (some []))).alloc (.loop { state := .ready, pending := none, fn := fn, tmps := (act n ρ ds).tmps, params := ps.toArray, assign := assign, body := body, defers := w.heap.size })), run_enterLoop_outer _ _ _ _ _, ?_, fun _ _ => trivial, ?_, fun h => (by cases h), ?_⟩
  · simp only [resolve, act_eval, hg, List.map_toArray, List.map_cons, List.map_nil]
    simp [Deferred.ofValue, ev]
  · simp [invoke, en.en _ _]
  · refine callsWF.2 ((iter_core (A := star (dfr (w.heap.size :: ds)) F) (n := n) (ρ := ρ) (ds := ds) (assign := assign) (body := body) (l := w.heap.size + 1) (r := { state := .ready, pending := none, fn := fn, tmps := (act n ρ ds).tmps, params := ps.toArray, assign := assign, body := body, defers := w.heap.size }) J Jx hit hps rfl rfl rfl rfl (fun w1 F1 pre x hp => hround w1 F1 _ _ pre x hp) (hh1.ent ?_)).mono ?_)
    · -- the record, the block, the rest
      refine Ent.trans ?_ (Ent.swap _ _ _)
      refine (Ent.refl _).star ?_
      exact (Ent.assoc' _ _ _).trans ((Ent.assoc' _ _ _).star (Ent.refl _))
    · rintro e w' ⟨⟨v, rfl⟩, s, h⟩
      have s1 : Std w0 w' := (hw.trans ((Std.alloc _ _).trans (Std.alloc _ _))).trans s
      rcases h with h | ⟨c, pre, hp, h⟩
      · have h1 := h.ent (Ent.swap _ _ _)
        have hb := (Sees.left (sees_blk (w.heap.size + 1) _)) w' h1
        exact ⟨none, _, run_endLoop hb (by simp [rec]), hdone w.heap.size _ (s1.trans (.putObj _ _ _)) ((h1.putObj _).ent (Ent.right _ _))⟩
      · have h1 := h.ent (Ent.swap _ _ _)
        have hb := (Sees.left (sees_blk (w.heap.size + 1) _)) w' h1
        exact ⟨some c, _, run_endLoop hb (by simp [rec]), hstop w.heap.size c pre hp _ (s1.trans (.putObj _ _ _)) ((h1.putObj _).ent (Ent.right _ _))⟩

/-- The same in a round of another such loop. -/
theorem g_range_in {l0 : Nat} {r0 : Loop} {α : Type} {g : Operand} {ps : List Tmp} {assign : Code} {gf : FuncId} {lb : List Value} (hg : ev n ρ g = .func (.func gf) #[] lb.toArray) [en : En P gf] {enc : α → List Value} {xs : List α}
    (J : List α → List SProp) (Jx : Code → List α → List SProp) (hit : ∀ K, Iter P gf lb enc xs (K :: J [])) (hps : ∀ x, (enc x).length = ps.length) {K : List SProp} [tk : Take L (J []) K]
    (hround : ∀ w0 F l r pre x, (pre ++ [x]) <+: xs → G w0 (star (blk l (.loop (rec r .ready none))) F) (J pre) (fun w => assign.wpIn (WF (some l)) 0 P (Exit.then (Begin w0 P l r F (J (pre ++ [x])) (fun c => Jx c (pre ++ [x])) body) NoExit) (act n (updz ρ ps (enc x)) []) w))
    (hdone : G w0 (star (blk l0 (.loop (rec r0 .busy none))) F) (J xs) (fun w => Q .normal (act n ρ ds) w))
    (hstop : ∀ c pre, pre <+: xs → G w0 (star (blk l0 (.loop (rec r0 .busy none))) F) (Jx c pre) (fun w => c.wpIn (WF (some l0)) 0 P Q (act n ρ ds) w)) :
    G w0 (star (blk l0 (.loop (rec r0 .busy none))) F) L (fun w => (Code.rangeFunc g ps.toArray assign body).wpIn (WF (some l0)) 0 P Q (act n ρ ds) w) := by
  intro w hw hh
  have hb0 : w.heap[l0]? = some (.loop (rec r0 .busy none)) := (Sees.left (Sees.left (sees_blk l0 _))) w hh
  refine wpIn_rangeFunc ?_
  intro fn _
  have hh1 := ((hh.ent ((Ent.refl _).star (take_ent (K := J [])))).alloc (.loop (rec { state := .ready, pending := none, fn := fn, tmps := (act n ρ ds).tmps, params := ps.toArray, assign := assign, body := body, defers := (rec r0 .busy none).defers } .ready none)))
  refine ⟨w.heap.size, [], (w.alloc (.loop { state := .ready, pending := none, fn := fn, tmps := (act n ρ ds).tmps, params := ps.toArray, assign := assign, body := body, defers := (rec r0 .busy none).defers })), { target := .fn (.func gf) lb.toArray, args := #[.func (.yield w.heap.size) #[] #[]] }, (w.alloc (.loop { state := .ready, pending := none, fn := fn, tmps := (act n ρ ds).tmps, params := ps.toArray, assign := assign, body := body, defers := (rec r0 .busy none).defers })), gf, (.func (.yield w.heap.size) #[] #[] :: lb).toArray, (w.alloc (.loop { state := .ready, pending := none, fn := fn, tmps := (act n ρ ds).tmps, params := ps.toArray, assign := assign, body := body, defers := (rec r0 .busy none).defers })), run_enterLoop_inner hb0 _ _ _ _ _, ?_, fun _ _ => trivial, ?_, fun h => (by cases h), ?_⟩
  · simp only [resolve, act_eval, hg, List.map_toArray, List.map_cons, List.map_nil]
    simp [Deferred.ofValue, ev]
  · simp [invoke, en.en _ _]
  · refine callsWF.2 ((iter_core (A := star (blk l0 (.loop (rec r0 .busy none))) F) (n := n) (ρ := ρ) (ds := ds) (assign := assign) (body := body) (l := w.heap.size) (r := { state := .ready, pending := none, fn := fn, tmps := (act n ρ ds).tmps, params := ps.toArray, assign := assign, body := body, defers := (rec r0 .busy none).defers }) J Jx hit hps rfl rfl rfl rfl (fun w1 F1 pre x hp => hround w1 F1 _ _ pre x hp) (hh1.ent (Ent.swap _ _ _))).mono ?_)
    rintro e w' ⟨⟨v, rfl⟩, s, h⟩
    have s1 : Std w0 w' := (hw.trans (Std.alloc _ _)).trans s
    rcases h with h | ⟨c, pre, hp, h⟩
    · have h1 := h.ent (Ent.swap _ _ _)
      have hb := (Sees.left (sees_blk w.heap.size _)) w' h1
      exact ⟨none, _, run_endLoop hb (by simp [rec]), hdone _ (s1.trans (.putObj _ _ _)) ((h1.putObj _).ent (Ent.right _ _))⟩
    · have h1 := h.ent (Ent.swap _ _ _)
      have hb := (Sees.left (sees_blk w.heap.size _)) w' h1
      exact ⟨some c, _, run_endLoop hb (by simp [rec]), hstop c pre hp _ (s1.trans (.putObj _ _ _)) ((h1.putObj _).ent (Ent.right _ _))⟩
end
end Go.Sl
