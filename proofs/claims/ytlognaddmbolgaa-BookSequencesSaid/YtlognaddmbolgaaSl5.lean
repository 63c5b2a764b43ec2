/- A region that draws its order, walked once. Plain library, no program in sight. -/
import Derived.Test.YtlognaddmbolgaaSl4
namespace Go.Sl
open Go Go.Proofs

/-- One operation's run, told without its frame. -/
def oRun (P : Program) (o : Oper) (e : Operand → Value) (w : World) (K : Value → World → Prop) : Prop :=
  match (execOp e o).run P w with
  | .ok (.value v) w' => K v w'
  | .ok .skip w' => K undef w'
  | .ok (.enter f args) w' => Calls P f args w' fun
    | .returned v, w'' => K v w''
    | _, _ => False
  | .ok (.row row args) w' => RowsIn (WF none) 0 P row args w' K
  | .ok (.round l f tmps assign body) w' => RoundIn (WF none) 0 P l f tmps assign body w' fun
    | .returned v, w'' => K v w''
    | _, _ => False
  | _ => False

section
variable {w0 : World} {A : SProp} {ro : Option Nat} {P : Program} {n : Nat} {ds : List Nat}

theorem oRun_of {o : Oper} {ρ : Nat → Value} {w : World} {K : Value → World → Prop} (hd : ∀ c, o.op ≠ .defer c) (hn : ∀ d, o.dst = some d → d < n)
    (h : o.wpIn (WF ro) 0 P (act n ρ ds) w (fun a w' => ∃ v, a = act n (updo ρ o.dst v) ds ∧ K v w') NoExit) :
    oRun P o (ev n ρ) w (fun v w' => ∃ u, (∀ d, o.dst = some d → v = u) ∧ K u w') := by
  have key : ∀ v u, (act n ρ ds).put o.dst v = act n (updo ρ o.dst u) ds → ∀ d, o.dst = some d → v = u := by
    intro v u e d hdd
    rw [act_put, hdd] at e
    have e' := congrArg (fun a : Act => a.tmps[d]?) e
    have hb : Nat.blt d n = true := by rw [Nat.blt_eq]; exact hn d hdd
    simp only [act_tmp, hb, cond_true, updo, upd_same, Option.some.injEq] at e'
    exact e'
  obtain ⟨_, h⟩ := h
  rw [Oper.semAt_eq _ _ _ hd, act_eval] at h
  unfold oRun
  generalize (execOp (ev n ρ) o).run P w = r at h
  cases r with
  | halt x w' => cases x <;> exact h.elim
  | ok x w' =>
    cases x <;> simp only [Oper.uponIn] at h ⊢
    case value v => obtain ⟨u, e, k⟩ := h; exact ⟨u, key v u e, k⟩
    case skip => obtain ⟨u, e, k⟩ := h; exact ⟨u, key _ u e, k⟩
    case defer d =>
      obtain ⟨u, e, k⟩ := h
      have hdef := congrArg (fun a : Act => a.defers.length) e
      cases ho : o.dst <;> simp [Act.put, act, ho] at hdef
    case enter f args =>
      refine (callsWF.1 h.2).mono ?_
      intro e w'' he
      cases e with
      | returned v => obtain ⟨u, e, k⟩ := he; exact ⟨u, key v u e, k⟩
      | panicked c => exact he.elim
      | outgrown => obtain ⟨_, _, hf⟩ := he; exact hf.elim
    case row row args =>
      have h2 : RowsIn (WF none) 0 P row args w' _ := h.2
      exact h2.mono fun v w'' ⟨u, e, k⟩ => ⟨u, key v u e, k⟩
    case round l f tmps assign body =>
      have h2 : RoundIn (WF none) 0 P l f tmps assign body w' _ := h.2
      refine h2.mono ?_
      intro e w'' he
      cases e with
      | returned v => obtain ⟨u, e, k⟩ := he; exact ⟨u, key v u e, k⟩
      | panicked c => exact he.elim
      | outgrown => obtain ⟨_, _, hf⟩ := he; exact hf.elim
theorem oRun_to {o : Oper} {ρ : Nat → Value} {w : World} {K : Value → World → Prop} {next : Act → World → Prop} {Q : Exit → Act → World → Prop} (hd : ∀ c, o.op ≠ .defer c)
    (h : oRun P o (ev n ρ) w K) (k : ∀ v w', K v w' → next (act n (updo ρ o.dst v) ds) w') : o.wpIn (WF ro) 0 P (act n ρ ds) w next Q := by
  refine ⟨fun _ _ => trivial, ?_⟩
  rw [Oper.semAt_eq _ _ _ hd, act_eval]
  unfold oRun at h
  generalize (execOp (ev n ρ) o).run P w = r at h
  have k' : ∀ v w', K v w' → next ((act n ρ ds).put o.dst v) w' := fun v w' x => by rw [act_put]; exact k v w' x
  cases r with
  | halt x w' => cases x <;> exact h.elim
  | ok x w' =>
    cases x <;> simp only [Oper.uponIn] at h ⊢
    case value v => exact k' _ _ h
    case skip => exact k' _ _ h
    case enter f args =>
      refine ⟨fun h => (by cases h), callsWF.2 (h.mono ?_)⟩
      intro e w'' he
      cases e with
      | returned v => exact k' _ _ he
      | panicked c => exact he.elim
      | outgrown => exact he.elim
    case row row args =>
      have h2 : RowsIn (WF ro) (0 - 1) P row args w' K := h
      exact ⟨fun h => (by cases h), h2.mono fun v w'' x => k' _ _ x⟩
    case round l f tmps assign body =>
      have h2 : RoundIn (WF ro) (0 - 1) P l f tmps assign body w' _ := h
      refine ⟨fun h => (by cases h), h2.mono ?_⟩
      intro e w'' he
      cases e with
      | returned v => exact k' _ _ he
      | panicked c => exact he.elim
      | outgrown => exact he.elim

/-- One operation's step, off the walk's own rules: it leads to some value and list of the kind R. -/
def OStep (w0 : World) (A : SProp) (ro : Option Nat) (P : Program) (all : Array Oper) (n : Nat) (ds : List Nat) (ρ : Nat → Value) (L : List SProp) (o : Oper) (R : Value → List SProp → Prop) : Prop :=
  ∀ Q, (∀ v M, R v M → G w0 A M (fun w => Q .normal (act n (updo ρ o.dst v) ds) w)) → G w0 A L (fun w => runL ro P all Q [o] (act n ρ ds) w)

/-- What a step comes to in a frame that agrees on all that the operation looks at. -/
theorem OStep.run {all : Array Oper} {ρ ρ' : Nat → Value} {L : List SProp} {o : Oper} {R : Value → List SProp → Prop} (h : OStep w0 A ro P all n ds ρ L o R) (hd : ∀ c, o.op ≠ .defer c) (hs : ∀ cs b, o.op ≠ .select cs b)
    (hn : ∀ d, o.dst = some d → d < n) (hl : ∀ t ∈ o.looksAt all, ρ' t = ρ t) {w : World} (hw : Std w0 w) (hh : holds (star A (sl L)) w) {next : Act → World → Prop} {Q : Exit → Act → World → Prop}
    (k : ∀ v u M w', R u M → (∀ d, o.dst = some d → v = u) → Std w0 w' → holds (star A (sl M)) w' → next (act n (updo ρ' o.dst v) ds) w') :
    if Region.wanted o (yielded all (act n ρ' ds).tmps) then o.wpIn (WF ro) 0 P (act n ρ' ds) w next Q else next ((act n ρ' ds).put o.dst undef) w := by
  have h1 := h (fun e a w' => e = .normal ∧ ∃ u, a = act n (updo ρ o.dst u) ds ∧ ∃ M, R u M ∧ Std w0 w' ∧ holds (star A (sl M)) w') (fun v M r w' s x => ⟨rfl, v, rfl, M, r, s, x⟩) w hw hh
  have hwant : Region.wanted o (yielded all (act n ρ' ds).tmps) = Region.wanted o (yielded all (act n ρ ds).tmps) := by
    unfold Region.wanted
    cases hg : o.guard with
    | none => rfl
    | some p =>
      obtain ⟨j, b⟩ := p
      have : yielded all (act n ρ' ds).tmps j = yielded all (act n ρ ds).tmps j := by
        unfold yielded
        cases hj : (all[j]?).bind (·.dst) with
        | none => rfl
        | some t =>
          have ht : ρ' t = ρ t := hl t (by
            unfold Oper.looksAt
            rw [hg]
            simp [hj])
          simp [act_tmp, ht]
      simp [this]
  rw [hwant]
  simp only [runL] at h1
  split
  · rename_i hw1
    rw [if_pos hw1] at h1
    have h2 := oRun_of (K := fun u w' => ∃ M, R u M ∧ Std w0 w' ∧ holds (star A (sl M)) w') hd hn (by
      unfold Oper.wpIn at h1 ⊢
      refine ⟨h1.1, ?_⟩
      have h1 := h1.2
      generalize (o.semAt (WF ro).round (act n ρ ds).eval).run P w = r at h1 ⊢
      cases r with
      | halt x w' => cases x <;> simp only [Oper.uponIn] at h1 ⊢ <;> first | exact h1 | (obtain ⟨e, _⟩ := h1; cases e)
      | ok x w' =>
        cases x <;> simp only [Oper.uponIn] at h1 ⊢ <;> first | exact h1 | skip
        case value v => exact h1.2
        case skip => exact h1.2
        case defer d => exact h1.2
        case enter f args =>
          refine ⟨h1.1, h1.2.mono ?_⟩
          intro e w'' he
          cases e with
          | returned v => exact he.2
          | panicked c => obtain ⟨e, _⟩ := he; cases e
          | outgrown => obtain ⟨_, _, e, _⟩ := he; cases e
        case row row args => exact ⟨h1.1, h1.2.mono fun v w'' x => x.2⟩
        case round l f tmps assign body =>
          refine ⟨h1.1, h1.2.mono ?_⟩
          intro e w'' he
          cases e with
          | returned v => exact he.2
          | panicked c => obtain ⟨e, _⟩ := he; cases e
          | outgrown => obtain ⟨_, _, e, _⟩ := he; cases e)
    have he : execOp (ev n ρ) o = execOp (ev n ρ') o := execOp_congr o hs fun x hx => by
      cases x with
      | tmp t =>
        have ht : ρ' t = ρ t := hl t (by
          unfold Oper.looksAt
          refine List.mem_append_left _ (List.mem_filterMap.2 ⟨.tmp t, by simpa using hx, rfl⟩))
        simp [ev, ht]
      | _ => rfl
    have h3 : oRun P o (ev n ρ') w (fun v w' => ∃ u, (∀ d, o.dst = some d → v = u) ∧ ∃ M, R u M ∧ Std w0 w' ∧ holds (star A (sl M)) w') := by
      unfold oRun at h2 ⊢
      rw [← he]
      exact h2
    exact oRun_to hd h3 fun v w' ⟨u, hu, M, r, s, x⟩ => k v u M w' r hu s x
  · rename_i hw1
    rw [if_neg hw1] at h1
    obtain ⟨_, u, e, M, r, s, x⟩ := h1
    rw [act_put]
    refine k undef u M w r (fun d hdd => ?_) s x
    rw [act_put, hdd] at e
    have e' := congrArg (fun a : Act => a.tmps[d]?) e
    have hb : Nat.blt d n = true := by rw [Nat.blt_eq]; exact hn d hdd
    simp only [act_tmp, hb, cond_true, updo, upd_same, Option.some.injEq] at e'
    exact e'

/-! ### What may be looked up about a region's text -/
def masks : List Oper → List Nat → List Nat
  | [], acc => acc
  | o :: os, acc => masks os (acc ++ [o.after.toList.foldl (fun s e => if Region.binds .any e then s ||| 2 ^ e.on ||| acc.getD e.on 0 else s) 0])
def isAnc (b : List Nat) (i j : Nat) : Bool := (b.getD i 0).testBit j
def okOp : Op → Bool
  | .defer _ | .select .. => false
  | _ => true
/-- The region's text is in order: ancestors are closed, edges point backward, each operation writes a slot of its own, and what it looks at is written by those ahead of it or behind it. -/
def okRegion (l : List Oper) (n : Nat) (b : List Nat) : Bool :=
  (List.range l.length).all fun i => match l[i]? with
    | none => true
    | some o =>
      okOp o.op && !isAnc b i i && (o.after.toList.all fun e => !Region.binds .any e || (Nat.blt e.on i)) &&
      ((List.range l.length).all fun j => !isAnc b i j || (o.after.toList.any fun e => Region.binds .any e && (e.on == j || isAnc b e.on j))) &&
      (match o.dst with
       | some d => Nat.blt d n && (List.range l.length).all fun j => j == i || ((l[j]?).bind (·.dst)) != some d
       | none => true) &&
      ((o.looksAt l.toArray).all fun t => (List.range l.length).all fun j => ((l[j]?).bind (·.dst)) != some t || isAnc b i j || i == j || isAnc b j i)
/-- The order in which the walk takes the operations: each behind its ancestors; behind a loud one only what hangs on it. -/
def okOrder (lou : List Nat) (b : List Nat) : List Nat → Bool
  | [] => true
  | i :: π => (!lou.contains i || π.all fun k => isAnc b k i) && (π.all fun k => !isAnc b i k) && okOrder lou b π
def nodupB : List Nat → Bool
  | [] => true
  | a :: l => !l.contains a && nodupB l
theorem nodup_of : ∀ {l : List Nat}, nodupB l = true → l.Nodup
  | [], _ => List.nodup_nil
  | a :: l, h => by
    simp only [nodupB, Bool.and_eq_true] at h
    exact List.nodup_cons.2 ⟨by simpa using h.1, nodup_of h.2⟩
def okPerm (m : Nat) (π : List Nat) : Bool := (π.length == m && (List.range m).all fun i => π.contains i) && (nodupB π && π.all fun i => Nat.blt i m)
/-- What is owed: each operation's step, the loud ones' with what they change. -/
def okSync (b : List Nat) (m i : Nat) (π : List Nat) : Bool := (List.range m).all fun j => π.contains j || (j == i || isAnc b i j)
def ObR (w0 : World) (A : SProp) (ro : Option Nat) (P : Program) (l : List Oper) (n : Nat) (ds : List Nat) (lou : List Nat) (K : (Nat → Value) → List SProp → Prop) : List Nat → List SProp → (Nat → Value) → List SProp → Prop
  | [], Lq, ρ, Lp => K ρ (Lq ++ Lp)
  | i :: π, Lq, ρ, Lp => match l[i]? with
    | none => False
    | some o => if lou.contains i then
        OStep w0 A ro P l.toArray n ds ρ (Lq ++ Lp) o (fun v M => ∃ Lq' Lp', Ent (sl M) (sl (Lq' ++ Lp')) ∧ (Lq' = Lq ∨ okSync (masks l []) l.length i π = true) ∧ ObR w0 A ro P l n ds lou K π Lq' (updo ρ o.dst v) Lp')
      else ∃ v, (∀ X, OStep w0 A ro P l.toArray n ds ρ (Lq ++ X) o (fun u M => u = v ∧ M = Lq ++ X)) ∧ ObR w0 A ro P l n ds lou K π Lq (updo ρ o.dst v) Lp
abbrev Ob (w0 : World) (A : SProp) (ro : Option Nat) (P : Program) (l : List Oper) (n : Nat) (ds : List Nat) (lou : List Nat) (Lq : List SProp) (K : (Nat → Value) → List SProp → Prop) (π : List Nat) (ρ : Nat → Value) (Lp : List SProp) : Prop :=
  ObR w0 A ro P l n ds lou K π Lq ρ Lp

/-! ### Soundness -/
def dstAt (l : List Oper) (j : Nat) : Option Tmp := (l[j]?).bind (·.dst)
abbrev Pd := Nat × (Nat → Value) × Value
/-- The frame where the operations of 'pend' have been walked but not run. -/
def cur (l : List Oper) (ρ0 : Nat → Value) (pend : List Pd) (ρf : Nat → Value) : Nat → Value := fun t => cond (pend.any (fun p => dstAt l p.1 == some t)) (ρ0 t) (ρf t)

structure RegFacts (l : List Oper) (n : Nat) (b : List Nat) : Prop where
  op : ∀ (i : Nat) (o : Oper), l[i]? = some o → okOp o.op = true
  irr : ∀ i, i < l.length → isAnc b i i = false
  back : ∀ (i : Nat) (o : Oper), l[i]? = some o → ∀ e ∈ o.after, Region.binds .any e = true → e.on < i
  step : ∀ (i : Nat) (o : Oper), l[i]? = some o → ∀ j, j < l.length → isAnc b i j = true → ∃ e ∈ o.after, Region.binds .any e = true ∧ (e.on = j ∨ isAnc b e.on j = true)
  dlt : ∀ (i : Nat) (o : Oper), l[i]? = some o → ∀ d, o.dst = some d → d < n
  dne : ∀ i j t, i < l.length → j < l.length → dstAt l i = some t → dstAt l j = some t → i = j
  look : ∀ (i : Nat) (o : Oper), l[i]? = some o → ∀ t ∈ o.looksAt l.toArray, ∀ j, j < l.length → dstAt l j = some t → isAnc b i j = true ∨ i = j ∨ isAnc b j i = true
theorem RegFacts.of {l : List Oper} {b : List Nat} (h : okRegion l n b = true) : RegFacts l n b := by
  unfold okRegion at h
  rw [List.all_eq_true] at h
  have at_ : ∀ (i : Nat) (o : Oper), l[i]? = some o → _ := fun i o ho => by
    have hi : i < l.length := (List.getElem?_eq_some_iff.1 ho).1
    have := h i (List.mem_range.2 hi)
    rw [ho] at this
    simp only [Bool.and_eq_true] at this
    exact this
  refine ⟨fun i o ho => (at_ i o ho).1.1.1.1.1, ?_, ?_, ?_, ?_, ?_, ?_⟩
  · intro i hi
    have := (at_ i l[i] (List.getElem?_eq_getElem hi)).1.1.1.1.2
    simpa using this
  · intro i o ho e he hb
    have := (at_ i o ho).1.1.1.2
    rw [List.all_eq_true] at this
    have := this e (by simpa using he)
    simpa [hb, Nat.blt_eq] using this
  · intro i o ho j hj ha
    have := (at_ i o ho).1.1.2
    rw [List.all_eq_true] at this
    have := this j (List.mem_range.2 hj)
    rw [ha] at this
    simp only [Bool.not_true, Bool.false_or, List.any_eq_true, Bool.and_eq_true, Bool.or_eq_true] at this
    obtain ⟨e, he, hb, hx⟩ := this
    exact ⟨e, by simpa using he, hb, hx.imp (by simp) id⟩
  · intro i o ho d hd
    have := (at_ i o ho).1.2
    rw [hd] at this
    simp only [Bool.and_eq_true] at this
    have h1 := this.1
    rwa [Nat.blt_eq] at h1
  · intro i j t hi hj h1 h2
    obtain ⟨o, ho, hd⟩ : ∃ o, l[i]? = some o ∧ o.dst = some t := by
      unfold dstAt at h1
      rw [List.getElem?_eq_getElem hi] at h1 ⊢
      exact ⟨_, rfl, h1⟩
    have := (at_ i o ho).1.2
    rw [hd] at this
    simp only [Bool.and_eq_true, List.all_eq_true] at this
    have h3 := this.2 j (List.mem_range.2 hj)
    simp only [Bool.or_eq_true, beq_iff_eq, bne_iff_ne] at h3
    rcases h3 with h3 | h3
    · exact h3.symm
    · exact absurd h2 h3
  · intro i o ho t ht j hj hd
    have := (at_ i o ho).2
    rw [List.all_eq_true] at this
    have := this t ht
    rw [List.all_eq_true] at this
    have h3 := this j (List.mem_range.2 hj)
    simp only [Bool.or_eq_true, beq_iff_eq, bne_iff_ne] at h3
    rcases h3 with ((h3 | h3) | h3) | h3
    · exact absurd hd h3
    · exact .inl h3
    · exact .inr (.inl h3)
    · exact .inr (.inr h3)

structure Inv (w0 : World) (A : SProp) (ro : Option Nat) (P : Program) (l : List Oper) (n : Nat) (ds : List Nat) (b : List Nat) (Lq : List SProp) (ρ0 : Nat → Value) (listed : Array Bool) (π : List Nat) (pend : List Pd) (ρf : Nat → Value) : Prop where
  sz : listed.size = l.length
  inπ : ∀ j ∈ π, j < l.length ∧ listed.getD j false = false ∧ ∀ p ∈ pend, p.1 ≠ j
  inP : ∀ p ∈ pend, p.1 < l.length ∧ listed.getD p.1 false = false
  all : ∀ j, j < l.length → listed.getD j false = true ∨ (∃ p ∈ pend, p.1 = j) ∨ j ∈ π
  nπ : π.Nodup
  nP : (pend.map (·.1)).Nodup
  closed : ∀ i j, listed.getD i false = true → isAnc b i j = true → j < l.length → listed.getD j false = true
  base : ∀ t, (∀ j, j < l.length → j ∉ π → dstAt l j ≠ some t) → ρf t = ρ0 t
  pa : ∀ p ∈ pend, ∀ j ∈ π, isAnc b p.1 j = false
  pq : ∀ p ∈ pend, ∀ o, l[p.1]? = some o → (∀ X, OStep w0 A ro P l.toArray n ds p.2.1 (Lq ++ X) o (fun u M => u = p.2.2 ∧ M = Lq ++ X)) ∧ (∀ d, o.dst = some d → ρf d = p.2.2) ∧
    ∀ t ∈ o.looksAt l.toArray, ((∃ j, j < l.length ∧ isAnc b p.1 j = true ∧ dstAt l j = some t) → p.2.1 t = ρf t) ∧ ((∀ j, j < l.length → isAnc b p.1 j = true → dstAt l j ≠ some t) → p.2.1 t = ρ0 t)

section sound
variable {l : List Oper} {b lou : List Nat} {Lq : List SProp} {ρ0 : Nat → Value} {K : (Nat → Value) → List SProp → Prop}
theorem dstAt_of {i : Nat} {o : Oper} (ho : l[i]? = some o) : dstAt l i = o.dst := by simp [dstAt, ho]
theorem updo_ne {ρ : Nat → Value} {d : Option Tmp} {t : Nat} {v : Value} (h : d ≠ some t) : updo ρ d v t = ρ t := by
  cases d with
  | none => rfl
  | some d => exact upd_ne _ _ (fun e => h (by rw [e]))

/-- A quiet operation is walked. -/
theorem Inv.pop (rf : RegFacts l n b) {listed : Array Bool} {k : Nat} {π : List Nat} {pend : List Pd} {ρf : Nat → Value} {Lp : List SProp} (h : Inv w0 A ro P l n ds b Lq ρ0 listed (k :: π) pend ρf) (ho : okOrder lou b (k :: π) = true)
    (hq : lou.contains k = false) (hob : Ob w0 A ro P l n ds lou Lq K (k :: π) ρf Lp) :
    ∃ v, ∃ o, l[k]? = some o ∧ Inv w0 A ro P l n ds b Lq ρ0 listed π ((k, ρf, v) :: pend) (updo ρf o.dst v) ∧ Ob w0 A ro P l n ds lou Lq K π (updo ρf o.dst v) Lp ∧ cur l ρ0 ((k, ρf, v) :: pend) (updo ρf o.dst v) = cur l ρ0 pend ρf := by
  simp only [Ob, ObR] at hob
  cases hk : l[k]? with
  | none => rw [hk] at hob; exact hob.elim
  | some o =>
    rw [hk] at hob
    simp only [hq] at hob
    obtain ⟨v, hst, hrest⟩ := hob
    simp only [okOrder, Bool.and_eq_true, List.all_eq_true] at ho
    have hkl : k < l.length := (List.getElem?_eq_some_iff.1 hk).1
    have hkd := dstAt_of hk
    obtain ⟨hkn, hπn⟩ := List.nodup_cons.1 h.nπ
    have hbase : ∀ t, dstAt l k = some t → ρf t = ρ0 t := fun t ht => h.base t fun j hj hjn e => hjn ((rf.dne j k t hj hkl e ht).symm ▸ List.mem_cons_self)
    refine ⟨v, o, rfl, ?_, hrest, ?_⟩
    · refine ⟨h.sz, ?_, ?_, ?_, hπn, ?_, h.closed, ?_, ?_, ?_⟩
      · intro j hj
        obtain ⟨h1, h2, h3⟩ := h.inπ j (List.mem_cons_of_mem _ hj)
        refine ⟨h1, h2, fun p hp => ?_⟩
        rcases List.mem_cons.1 hp with rfl | hp
        · rintro rfl; exact hkn hj
        · exact h3 p hp
      · intro p hp
        rcases List.mem_cons.1 hp with rfl | hp
        · exact ⟨hkl, (h.inπ k List.mem_cons_self).2.1⟩
        · exact h.inP p hp
      · intro j hj
        rcases h.all j hj with h1 | ⟨p, hp, rfl⟩ | h1
        · exact .inl h1
        · exact .inr (.inl ⟨p, List.mem_cons_of_mem _ hp, rfl⟩)
        · rcases List.mem_cons.1 h1 with rfl | h1
          · exact .inr (.inl ⟨_, List.mem_cons_self, rfl⟩)
          · exact .inr (.inr h1)
      · rw [List.map_cons, List.nodup_cons]
        refine ⟨fun hm => ?_, h.nP⟩
        obtain ⟨p, hp, e⟩ := List.mem_map.1 hm
        exact (h.inπ k List.mem_cons_self).2.2 p hp e
      · intro t ht
        rw [updo_ne (by rw [← hkd]; exact ht k hkl hkn)]
        exact h.base t fun j hj hjn => ht j hj fun hjm => hjn (List.mem_cons_of_mem _ hjm)
      · intro p hp j hj
        rcases List.mem_cons.1 hp with rfl | hp
        · have := ho.1.2 j hj
          simpa using this
        · exact h.pa p hp j (List.mem_cons_of_mem _ hj)
      · intro p hp o' ho'
        rcases List.mem_cons.1 hp with rfl | hp
        · rw [hk] at ho'
          obtain rfl := Option.some.inj ho'
          refine ⟨hst, fun d hd => by rw [hd]; simp [updo, upd_same], fun t ht => ⟨?_, ?_⟩⟩
          · rintro ⟨j, hj, ha, hd⟩
            refine (updo_ne fun e => ?_).symm
            have : j = k := rf.dne j k t hj hkl hd (by rw [hkd]; exact e)
            subst this
            rw [rf.irr j hj] at ha; cases ha
          · intro hno
            refine h.base t fun j hj hjn e => ?_
            rcases rf.look k o hk t ht j hj e with h1 | h1 | h1
            · exact hno j hj h1 e
            · exact hjn (by rw [← h1]; exact List.mem_cons_self)
            · rcases h.all j hj with h2 | ⟨p, hp, rfl⟩ | h2
              · have := h.closed j k h2 h1 hkl
                rw [(h.inπ k List.mem_cons_self).2.1] at this; cases this
              · rw [h.pa p hp k List.mem_cons_self] at h1; cases h1
              · exact hjn h2
        · obtain ⟨h1, h2, h3⟩ := h.pq p hp o' ho'
          have hne : p.1 ≠ k := (h.inπ k List.mem_cons_self).2.2 p hp
          have hpl := (h.inP p hp).1
          have hpak := h.pa p hp k List.mem_cons_self
          refine ⟨h1, fun d hd => ?_, fun t ht => ⟨?_, (h3 t ht).2⟩⟩
          · rw [updo_ne]
            · exact h2 d hd
            · intro e
              exact hne (rf.dne p.1 k d hpl hkl (by rw [dstAt_of ho']; exact hd) (by rw [hkd]; exact e))
          · rintro ⟨j, hj, ha, hd⟩
            rw [(h3 t ht).1 ⟨j, hj, ha, hd⟩]
            refine (updo_ne fun e => ?_).symm
            have : j = k := rf.dne j k t hj hkl hd (by rw [hkd]; exact e)
            subst this
            rw [hpak] at ha; cases ha
    · funext t
      unfold cur
      simp only [List.any_cons]
      by_cases e : dstAt l k = some t
      · have hno : pend.any (fun p => dstAt l p.1 == some t) = false := by
          rw [List.any_eq_false]
          intro p hp
          simp only [beq_iff_eq]
          intro e2
          exact (h.inπ k List.mem_cons_self).2.2 p hp (rf.dne p.1 k t (h.inP p hp).1 hkl e2 e)
        simp [e, hno, hbase t e]
      · have e1 : (dstAt l k == some t) = false := by simpa using e
        rw [e1, Bool.false_or, updo_ne (by rw [← hkd]; exact e)]

theorem okOrder_tail {k : Nat} {π : List Nat} (h : okOrder lou b (k :: π) = true) : okOrder lou b π = true := by
  simp only [okOrder, Bool.and_eq_true] at h
  exact h.2
/-- Quiet operations are walked till i is reached. -/
theorem Inv.pops (rf : RegFacts l n b) {listed : Array Bool} {i : Nat} {πb : List Nat} : ∀ (πa : List Nat) {pend : List Pd} {ρf : Nat → Value} {Lp : List SProp}, Inv w0 A ro P l n ds b Lq ρ0 listed (πa ++ i :: πb) pend ρf → okOrder lou b (πa ++ i :: πb) = true →
    (∀ k, isAnc b i k = true → k < l.length → listed.getD k false = true) → Ob w0 A ro P l n ds lou Lq K (πa ++ i :: πb) ρf Lp →
    ∃ pend' ρf', Inv w0 A ro P l n ds b Lq ρ0 listed (i :: πb) pend' ρf' ∧ okOrder lou b (i :: πb) = true ∧ Ob w0 A ro P l n ds lou Lq K (i :: πb) ρf' Lp ∧ cur l ρ0 pend' ρf' = cur l ρ0 pend ρf ∧ pend'.length = pend.length + πa.length
  | [], pend, ρf, Lp, h, ho, _, hob => ⟨pend, ρf, h, ho, hob, rfl, by simp⟩
  | k :: πa, pend, ρf, Lp, h, ho, hr, hob => by
    have hq : lou.contains k = false := by
      cases hc : lou.contains k with
      | false => rfl
      | true =>
        have h1 : okOrder lou b (k :: (πa ++ i :: πb)) = true := ho
        simp only [okOrder, Bool.and_eq_true, hc, Bool.not_true, Bool.false_or, List.all_eq_true] at h1
        have h2 := h1.1.1 i (by simp)
        obtain ⟨h3, h4, _⟩ := h.inπ k (by simp)
        rw [hr k h2 h3] at h4; cases h4
    obtain ⟨v, o, _, hi, hob', hc⟩ := h.pop rf ho hq hob
    obtain ⟨pend', ρf', h1, h2, h3, h4, h5⟩ := Inv.pops rf πa hi (okOrder_tail ho) hr hob'
    exact ⟨pend', ρf', h1, h2, h3, h4.trans hc, by rw [h5]; simp; omega⟩

theorem getD_set {listed : Array Bool} {i j : Nat} (hi : i < listed.size) : (listed.setIfInBounds i true).getD j false = if j = i then true else listed.getD j false := by
  by_cases e : j = i
  · subst e; simp [hi]
  · have e' : i ≠ j := fun h => e h.symm
    simp [Array.getElem?_setIfInBounds_ne e', e]

theorem draw_sound (rf : RegFacts l n b) (hbm : b = masks l []) {Q : Exit → Act → World → Prop} (hK : ∀ ρ L, K ρ L → G w0 A L (fun w => Q .normal (act n ρ ds) w)) :
    ∀ (k : Nat) (Lq : List SProp) (listed : Array Bool) (π : List Nat) (pend : List Pd) (ρf : Nat → Value) (Lp : List SProp) (w : World), Inv w0 A ro P l n ds b Lq ρ0 listed π pend ρf → okOrder lou b π = true → Ob w0 A ro P l n ds lou Lq K π ρf Lp →
      k = pend.length + π.length → Std w0 w → holds (star A (sl (Lq ++ Lp))) w → wpAnyIn (WF ro) 0 P .any l.toArray Q k listed (act n (cur l ρ0 pend ρf) ds) w := by
  intro k
  induction k with
  | zero =>
    intro Lq listed π pend ρf Lp w hI ho hob hk hw hh
    have hp : pend = [] := List.eq_nil_of_length_eq_zero (by omega)
    have hπ : π = [] := List.eq_nil_of_length_eq_zero (by omega)
    subst hp hπ
    refine ⟨?_, ?_⟩
    · unfold Region.ready
      rw [List.filter_eq_nil_iff]
      intro i hi
      have hil : i < l.length := by simpa using hi
      have h1 : listed.getD i false = true := by
        rcases hI.all i hil with h1 | ⟨p, hp, _⟩ | h1
        · exact h1
        · cases hp
        · cases h1
      have h2 : listed.getD i true = true := by
        have his : i < listed.size := by rw [hI.sz]; exact hil
        simp [his] at h1 ⊢
        exact h1
      rw [h2]
      simp
    · have h4 := hK ρf (Lq ++ Lp) (by simpa [Ob, ObR] using hob) w hw hh
      have e : cur l ρ0 [] ρf = ρf := by funext t; simp [cur]
      rw [e]
      exact h4
  | succ k ih =>
    intro Lq listed π pend ρf Lp w hI ho hob hk hw hh
    have getT : ∀ i, i < l.length → listed.getD i true = listed.getD i false := fun i hi => by
      have his : i < listed.size := by rw [hI.sz]; exact hi
      simp [his]
    refine ⟨?_, ?_⟩
    · -- something is ready: the least that is not listed
      intro hnil
      exfalso
      obtain ⟨j, hj, hjl⟩ : ∃ j, j < l.length ∧ listed.getD j false = false := by
        cases pend with
        | cons p _ => exact ⟨p.1, (hI.inP p List.mem_cons_self).1, (hI.inP p List.mem_cons_self).2⟩
        | nil =>
          cases π with
          | cons j _ => exact ⟨j, (hI.inπ j List.mem_cons_self).1, (hI.inπ j List.mem_cons_self).2.1⟩
          | nil => simp at hk
      have key : ∀ j, j < l.length → listed.getD j false = true := by
        intro j
        induction j using Nat.strongRecOn with
        | _ j ihj =>
          intro hj
          cases hc : listed.getD j false with
          | true => rfl
          | false =>
            have : j ∈ Region.ready .any l.toArray listed := by
              unfold Region.ready
              rw [List.mem_filter]
              refine ⟨by simpa using hj, ?_⟩
              rw [getT j hj, hc]
              simp only [Bool.not_false, Bool.true_and, List.getElem?_toArray, List.getElem?_eq_getElem hj, Option.map_some, Option.getD_some]
              rw [Array.all_eq_true_iff_forall_mem]
              intro e he
              cases hb : Region.binds .any e with
              | false => rfl
              | true =>
                have hlt := rf.back j l[j] (List.getElem?_eq_getElem hj) e he hb
                simpa using ihj e.on hlt (by omega)
            rw [hnil] at this; cases this
      rw [key j hj] at hjl; cases hjl
    · intro i hi
      unfold Region.ready at hi
      rw [List.mem_filter] at hi
      obtain ⟨hil, hi⟩ := hi
      have hil : i < l.length := by simpa using hil
      rw [getT i hil] at hi
      simp only [Bool.and_eq_true, List.getElem?_toArray, List.getElem?_eq_getElem hil, Option.map_some, Option.getD_some] at hi
      obtain ⟨hnl, hed⟩ := hi
      have hnl : listed.getD i false = false := by simpa using hnl
      rw [Array.all_eq_true_iff_forall_mem] at hed
      have hoi : l[i]? = some l[i] := List.getElem?_eq_getElem hil
      -- its ancestors are listed
      have hanc : ∀ j, isAnc b i j = true → j < l.length → listed.getD j false = true := by
        intro j ha hj
        obtain ⟨e, he, hb, hx⟩ := rf.step i l[i] hoi j hj ha
        have h1 := hed e he
        rw [hb] at h1
        simp only [Bool.not_true, Bool.false_or] at h1
        rcases hx with rfl | hx
        · exact h1
        · exact hI.closed e.on j h1 hx hj
      have hlsz : i < listed.size := by rw [hI.sz]; exact hil
      have hclosed' : ∀ x y, (listed.setIfInBounds i true).getD x false = true → isAnc b x y = true → y < l.length → (listed.setIfInBounds i true).getD y false = true := by
        intro x y hx ha hy
        rw [getD_set hlsz] at hx ⊢
        split
        · rfl
        · split at hx
          · rename_i e; subst e; exact hanc y ha hy
          · exact hI.closed x y hx ha hy
      -- the case of an operation that has been walked and not run
      have pendCase : ∀ (π : List Nat) (pend : List Pd) (ρf : Nat → Value), Inv w0 A ro P l n ds b Lq ρ0 listed π pend ρf → okOrder lou b π = true → Ob w0 A ro P l n ds lou Lq K π ρf Lp → k + 1 = pend.length + π.length → (∃ p ∈ pend, p.1 = i) →
          wpOpIn (WF ro) 0 P l.toArray Q i (wpAnyIn (WF ro) 0 P .any l.toArray Q k (listed.setIfInBounds i true)) (act n (cur l ρ0 pend ρf) ds) w := by
        rintro π pend ρf hI ho hob hk ⟨p, hp, hpi⟩
        obtain ⟨hst, hdv, hlk⟩ := hI.pq p hp l[i] (by rw [hpi]; exact hoi)
        have hopd := rf.op i l[i] hoi
        have hcl : ∀ t ∈ (l[i]).looksAt l.toArray, cur l ρ0 pend ρf t = p.2.1 t := by
          intro t ht
          unfold cur
          cases hany : pend.any (fun p => dstAt l p.1 == some t) with
          | true =>
            rw [cond_true]
            rw [List.any_eq_true] at hany
            obtain ⟨q, hq, hqd⟩ := hany
            have hqd : dstAt l q.1 = some t := by simpa using hqd
            refine ((hlk t ht).2 fun j hj ha e => ?_).symm
            have : j = q.1 := rf.dne j q.1 t hj (hI.inP q hq).1 e hqd
            rw [hpi] at ha
            rw [this] at ha
            have := hanc q.1 ha (hI.inP q hq).1
            rw [(hI.inP q hq).2] at this; cases this
          | false =>
            rw [cond_false]
            by_cases hex : ∃ j, j < l.length ∧ isAnc b p.1 j = true ∧ dstAt l j = some t
            · exact ((hlk t ht).1 hex).symm
            · have hno : ∀ j, j < l.length → isAnc b p.1 j = true → dstAt l j ≠ some t := fun j hj ha e => hex ⟨j, hj, ha, e⟩
              rw [(hlk t ht).2 hno]
              refine hI.base t fun j hj hjn e => ?_
              have hjp : ∀ q ∈ pend, q.1 ≠ j := fun q hq e2 => by
                have : pend.any (fun p => dstAt l p.1 == some t) = true := by
                  rw [List.any_eq_true]
                  exact ⟨q, hq, by rw [e2, e]; simp⟩
                rw [hany] at this; cases this
              rcases rf.look i l[i] hoi t ht j hj e with h1 | h1 | h1
              · exact hno j hj (by rw [hpi]; exact h1) e
              · exact hjp p hp (by rw [hpi, h1])
              · rcases hI.all j hj with h2 | ⟨q, hq, e2⟩ | h2
                · have := hI.closed j i h2 h1 hil
                  rw [hnl] at this; cases this
                · exact hjp q hq e2
                · exact hjn h2
        have hrun := (hst Lp).run (ρ' := cur l ρ0 pend ρf) (by intro c e; rw [e] at hopd; cases hopd) (by intro cs bb e; rw [e] at hopd; cases hopd) (rf.dlt i l[i] hoi) hcl hw hh
          (next := wpAnyIn (WF ro) 0 P .any l.toArray Q k (listed.setIfInBounds i true)) (Q := Q) (fun v u M w' hr hvu hw' hh' => ?_)
        · unfold wpOpIn
          simp only [List.getElem?_toArray, hoi]
          split
          · rename_i hwant; rw [if_pos hwant] at hrun; exact hrun
          · rename_i hwant; rw [if_neg hwant] at hrun; exact ⟨fun _ _ => trivial, hrun⟩
        · obtain ⟨rfl, rfl⟩ := hr
          -- it has been run
          obtain ⟨pa, pb, hpp⟩ := List.append_of_mem hp
          have hnP := hI.nP
          rw [hpp, List.map_append, List.map_cons] at hnP
          have hsplit := List.nodup_append.1 hnP
          have hne : ∀ q ∈ pa ++ pb, q.1 ≠ i := by
            intro q hq e
            rcases List.mem_append.1 hq with hq | hq
            · exact hsplit.2.2 q.1 (List.mem_map.2 ⟨q, hq, rfl⟩) p.1 List.mem_cons_self (by rw [e, hpi])
            · exact (List.nodup_cons.1 hsplit.2.1).1 (by rw [hpi, ← e]; exact List.mem_map.2 ⟨q, hq, rfl⟩)
          have hmem : ∀ q, q ∈ pa ++ pb → q ∈ pend := fun q hq => by
            rw [hpp]
            rcases List.mem_append.1 hq with hq | hq
            · exact List.mem_append_left _ hq
            · exact List.mem_append_right _ (List.mem_cons_of_mem _ hq)
          have hmem' : ∀ q, q ∈ pend → q = p ∨ q ∈ pa ++ pb := fun q hq => by
            rw [hpp] at hq
            rcases List.mem_append.1 hq with hq | hq
            · exact .inr (List.mem_append_left _ hq)
            · rcases List.mem_cons.1 hq with hq | hq
              · exact .inl hq
              · exact .inr (List.mem_append_right _ hq)
          have hcur : updo (cur l ρ0 pend ρf) (l[i]).dst v = cur l ρ0 (pa ++ pb) ρf := by
            funext t
            by_cases e : (l[i]).dst = some t
            · have h1 : (pa ++ pb).any (fun p => dstAt l p.1 == some t) = false := by
                rw [List.any_eq_false]
                intro q hq
                simp only [beq_iff_eq]
                intro e2
                exact hne q hq (rf.dne q.1 i t (hI.inP q (hmem q hq)).1 hil e2 (by rw [dstAt_of hoi]; exact e))
              rw [e]
              simp only [updo, upd_same, cur, h1]
              rw [hvu t e]
              exact (hdv t e).symm
            · rw [updo_ne e]
              unfold cur
              have : pend.any (fun p => dstAt l p.1 == some t) = (pa ++ pb).any (fun p => dstAt l p.1 == some t) := by
                have hpd : (dstAt l p.1 == some t) = false := by rw [hpi, dstAt_of hoi]; simpa using e
                rw [hpp]
                simp [hpd]
              rw [this]
          rw [hcur]
          refine ih Lq (listed.setIfInBounds i true) π (pa ++ pb) ρf Lp w' ?_ ho hob (by rw [hpp] at hk; simp at hk ⊢; omega) hw' hh'
          refine ⟨by simpa using hI.sz, ?_, ?_, ?_, hI.nπ, ?_, hclosed', hI.base, fun q hq => hI.pa q (hmem q hq), fun q hq => hI.pq q (hmem q hq)⟩
          · intro j hj
            obtain ⟨h1, h2, h3⟩ := hI.inπ j hj
            have hji : j ≠ i := fun e => h3 p hp (by rw [hpi, e])
            exact ⟨h1, by rw [getD_set hlsz, if_neg hji]; exact h2, fun q hq => h3 q (hmem q hq)⟩
          · intro q hq
            obtain ⟨h1, h2⟩ := hI.inP q (hmem q hq)
            exact ⟨h1, by rw [getD_set hlsz, if_neg (hne q hq)]; exact h2⟩
          · intro j hj
            rw [getD_set hlsz]
            by_cases e : j = i
            · left; rw [if_pos e]
            · rw [if_neg e]
              rcases hI.all j hj with h1 | ⟨q, hq, e2⟩ | h1
              · exact .inl h1
              · rcases hmem' q hq with rfl | hq'
                · exact absurd (e2.symm.trans hpi) e
                · exact .inr (.inl ⟨q, hq', e2⟩)
              · exact .inr (.inr h1)
          · rw [List.map_append, List.nodup_append]
            exact ⟨hsplit.1, (List.nodup_cons.1 hsplit.2.1).2, fun x hx y hy => hsplit.2.2 x hx y (List.mem_cons_of_mem _ hy)⟩
      rcases hI.all i hil with h1 | h1 | h1
      · rw [hnl] at h1; cases h1
      · exact pendCase π pend ρf hI ho hob (by omega) h1
      · obtain ⟨πa, πb, hπ⟩ := List.append_of_mem h1
        subst hπ
        obtain ⟨pend', ρf', hI', ho', hob', hcur, hlen⟩ := hI.pops rf πa ho hanc hob
        rw [← hcur]
        cases hl : lou.contains i with
        | false =>
          obtain ⟨v, o, _, hI2, hob2, hc2⟩ := hI'.pop rf ho' hl hob'
          rw [← hc2]
          exact pendCase πb _ _ hI2 (okOrder_tail ho') hob2 (by simp at hk ⊢; omega) ⟨_, List.mem_cons_self, rfl⟩
        | true =>
          simp only [Ob, ObR, hoi, hl, if_true] at hob'
          have hopd := rf.op i l[i] hoi
          have hcl : ∀ t ∈ (l[i]).looksAt l.toArray, cur l ρ0 pend' ρf' t = ρf' t := by
            intro t ht
            unfold cur
            have hno : pend'.any (fun p => dstAt l p.1 == some t) = false := by
             rw [List.any_eq_false]
             intro q hq
             simp only [beq_iff_eq]
             intro hqd
             have hql := (hI'.inP q hq).1
             rcases rf.look i l[i] hoi t ht q.1 hql hqd with h2 | h2 | h2
             · have := hanc q.1 h2 hql
               rw [(hI'.inP q hq).2] at this; cases this
             · exact (hI'.inπ i List.mem_cons_self).2.2 q hq h2.symm
             · rw [hI'.pa q hq i List.mem_cons_self] at h2; cases h2
            rw [hno]
            rfl
          have hrun := hob'.run (ρ' := cur l ρ0 pend' ρf') (by intro c e; rw [e] at hopd; cases hopd) (by intro cs bb e; rw [e] at hopd; cases hopd) (rf.dlt i l[i] hoi) hcl hw hh
            (next := wpAnyIn (WF ro) 0 P .any l.toArray Q k (listed.setIfInBounds i true)) (Q := Q) (fun v u M w' hr hvu hw' hh' => ?_)
          · unfold wpOpIn
            simp only [List.getElem?_toArray, hoi]
            split
            · rename_i hwant; rw [if_pos hwant] at hrun; exact hrun
            · rename_i hwant; rw [if_neg hwant] at hrun; exact ⟨fun _ _ => trivial, hrun⟩
          · obtain ⟨Lq', Lp', he, hsy, hob2⟩ := hr
            have hp0 : Lq' = Lq ∨ pend' = [] := hsy.imp id fun hs => by
              cases hpd : pend' with
              | nil => rfl
              | cons q rest =>
                exfalso
                have hq : q ∈ pend' := by rw [hpd]; exact List.mem_cons_self
                obtain ⟨hql, hqn⟩ := hI'.inP q hq
                rw [← hbm] at hs
                simp only [okSync, List.all_eq_true, List.mem_range, Bool.or_eq_true, beq_iff_eq] at hs
                rcases hs q.1 hql with h2 | h2 | h2
                · exact (hI'.inπ q.1 (List.mem_cons_of_mem _ (by simpa using h2))).2.2 q hq rfl
                · exact (hI'.inπ i List.mem_cons_self).2.2 q hq h2
                · rw [hanc q.1 h2 hql] at hqn; cases hqn
            replace hh' := hh'.ent ((Ent.refl A).star he)
            obtain ⟨hin, hπn⟩ := List.nodup_cons.1 hI'.nπ
            have hnd : ∀ q ∈ pend', ∀ t, (l[i]).dst = some t → dstAt l q.1 ≠ some t := fun q hq t e e2 =>
              (hI'.inπ i List.mem_cons_self).2.2 q hq (rf.dne q.1 i t (hI'.inP q hq).1 hil e2 (by rw [dstAt_of hoi]; exact e))
            have hcur2 : updo (cur l ρ0 pend' ρf') (l[i]).dst v = cur l ρ0 pend' (updo ρf' (l[i]).dst u) := by
              funext t
              by_cases e : (l[i]).dst = some t
              · have h2 : pend'.any (fun p => dstAt l p.1 == some t) = false := by
                  rw [List.any_eq_false]
                  intro q hq
                  simp only [beq_iff_eq]
                  exact hnd q hq t e
                rw [e]
                simp only [updo, upd_same, cur, h2]
                rw [hvu t e]
                simp
              · rw [updo_ne e]
                unfold cur
                rw [updo_ne e]
            rw [hcur2]
            refine ih Lq' (listed.setIfInBounds i true) πb pend' _ Lp' w' ?_ (okOrder_tail ho') hob2 (by simp at hk hlen ⊢; omega) hw' hh'
            refine ⟨by simpa using hI'.sz, ?_, ?_, ?_, hπn, hI'.nP, hclosed', ?_, ?_, ?_⟩
            · intro j hj
              obtain ⟨h2, h3, h4⟩ := hI'.inπ j (List.mem_cons_of_mem _ hj)
              have hji : j ≠ i := fun e => hin (by rw [← e]; exact hj)
              exact ⟨h2, by rw [getD_set hlsz, if_neg hji]; exact h3, h4⟩
            · intro q hq
              obtain ⟨h2, h3⟩ := hI'.inP q hq
              exact ⟨h2, by rw [getD_set hlsz, if_neg ((hI'.inπ i List.mem_cons_self).2.2 q hq)]; exact h3⟩
            · intro j hj
              rw [getD_set hlsz]
              by_cases e : j = i
              · left; rw [if_pos e]
              · rw [if_neg e]
                rcases hI'.all j hj with h2 | h2 | h2
                · exact .inl h2
                · exact .inr (.inl h2)
                · rcases List.mem_cons.1 h2 with h2 | h2
                  · exact absurd h2 e
                  · exact .inr (.inr h2)
            · intro t ht
              rw [updo_ne (by rw [← dstAt_of hoi]; exact ht i hil hin)]
              exact hI'.base t fun j hj hjn => ht j hj fun hjm => hjn (List.mem_cons_of_mem _ hjm)
            · intro q hq j hj
              exact hI'.pa q hq j (List.mem_cons_of_mem _ hj)
            · intro q hq o' ho2
              rcases hp0 with hp0 | hp0
              case inr => rw [hp0] at hq; cases hq
              subst hp0
              obtain ⟨h2, h3, h4⟩ := hI'.pq q hq o' ho2
              refine ⟨h2, fun d hd => ?_, fun t ht => ⟨?_, (h4 t ht).2⟩⟩
              · rw [updo_ne]
                · exact h3 d hd
                · intro e; exact hnd q hq d e (by rw [dstAt_of ho2]; exact hd)
              · rintro ⟨j, hj, ha, hd⟩
                rw [(h4 t ht).1 ⟨j, hj, ha, hd⟩]
                refine (updo_ne fun e => ?_).symm
                have : j = i := rf.dne j i t hj hil hd (by rw [dstAt_of hoi]; exact e)
                subst this
                rw [hI'.pa q hq j List.mem_cons_self] at ha; cases ha
end sound

/-- **A region that draws its order.** 'lou': the loud operations (they may change what is owned; each two of them are ordered); 'π': the order in which the walk takes all; 'Lq': what the quiet ones may read. -/
theorem g_draw {L : List SProp} {Q : Exit → Act → World → Prop} {ρ : Nat → Value} {id : Nat} {l : List Oper} (lou π : List Nat) (Lq : List SProp) {Lp : List SProp} (hm : P.follows .mixedOrders = true)
    (hok : (okRegion l n (masks l []) && okOrder lou (masks l []) π && okPerm l.length π) = true) [tk : Take L Lq Lp]
    (h : Ob w0 A ro P l n ds lou Lq (fun ρ' L' => G w0 A L' (fun w => Q .normal (act n ρ' ds) w)) π ρ Lp) :
    G w0 A L (fun w => (Code.region id l.toArray true).wpIn (WF ro) 0 P Q (act n ρ ds) w) := by
  simp only [Bool.and_eq_true] at hok
  obtain ⟨⟨h1, h2⟩, h3⟩ := hok
  refine G.perm tk.perm fun w hw hh => ?_
  refine wpIn_region_any hm ?_
  simp only [okPerm, Bool.and_eq_true, beq_iff_eq, List.all_eq_true, List.mem_range] at h3
  obtain ⟨⟨hlen, hall⟩, hnd, hlt⟩ := h3
  have hmem : ∀ i, i < l.length → i ∈ π := fun i hi => by simpa using hall i hi
  have hin : ∀ j ∈ π, j < l.length := fun j hj => by have := hlt j hj; rwa [Nat.blt_eq] at this
  have hrep : ∀ j, (Array.replicate l.toArray.size false).getD j false = false := fun j => by
    simp only [Array.getD_eq_getD_getElem?, Array.getElem?_replicate]
    split <;> rfl
  have := draw_sound (ro := ro) (P := P) (ρ0 := ρ) (RegFacts.of h1) rfl (Q := Q) (fun _ _ x => x) l.toArray.size Lq (Array.replicate l.toArray.size false) π [] ρ Lp w.drew ?_ h2 h (by simp [hlen]) (hw.trans (.drew w)) (hh.le (Le.refl _))
  · have e : cur l ρ [] ρ = ρ := by funext t; simp [cur]
    rw [e] at this
    exact this
  · refine ⟨by simp, ?_, by simp, ?_, nodup_of hnd, by simp, ?_, ?_, by simp, by simp⟩
    · intro j hj
      exact ⟨hin j hj, hrep j, by simp⟩
    · intro j hj
      exact .inr (.inr (hmem j hj))
    · intro i j hi
      rw [hrep i] at hi; cases hi
    · intro t _
      rfl

instance Take.app {L K1 K2 M1 M2 : List SProp} [h : Take L K1 M1] [k : Take M1 K2 M2] : Take L (K1 ++ K2) M2 :=
  ⟨by rw [List.append_assoc]; exact h.perm.trans (k.perm.append_left K1)⟩
section
variable {l : List Oper} {lou : List Nat} {Lq : List SProp} {K : (Nat → Value) → List SProp → Prop} {i : Nat} {π : List Nat} {ρ : Nat → Value} {Lp : List SProp} {o : Oper}
theorem ob_nil (h : K ρ (Lq ++ Lp)) : Ob w0 A ro P l n ds lou Lq K [] ρ Lp := h
theorem ob_q (hi : l[i]? = some o) (hl : lou.contains i = false) (h : ∃ v, (∀ X, OStep w0 A ro P l.toArray n ds ρ (Lq ++ X) o (fun u M => u = v ∧ M = Lq ++ X)) ∧ Ob w0 A ro P l n ds lou Lq K π (updo ρ o.dst v) Lp) :
    Ob w0 A ro P l n ds lou Lq K (i :: π) ρ Lp := by
  simp only [Ob, ObR, hi, hl]
  exact h
theorem ob_fin {M Lq Lp : List SProp} [t : Take M Lq Lp] : Ent (sl M) (sl (Lq ++ Lp)) := sl_perm t.perm
/-- A loud operation. -/
theorem ob_l (hi : l[i]? = some o) (hl : lou.contains i = true) (h : OStep w0 A ro P l.toArray n ds ρ (Lq ++ Lp) o (fun v M => ∃ Lp', Ent (sl M) (sl (Lq ++ Lp')) ∧ Ob w0 A ro P l n ds lou Lq K π (updo ρ o.dst v) Lp')) :
    Ob w0 A ro P l n ds lou Lq K (i :: π) ρ Lp := by
  simp only [Ob, ObR, hi, hl, if_true]
  exact fun Q hn => h Q fun v M ⟨Lp', h1, h2⟩ => hn v M ⟨Lq, Lp', h1, .inl rfl, h2⟩
/-- A loud operation that all that was walked ahead of it are ancestors of: from here on other things may be read. -/
theorem ob_s (Lq' : List SProp) (hi : l[i]? = some o) (hl : lou.contains i = true) (hs : okSync (masks l []) l.length i π = true)
    (h : OStep w0 A ro P l.toArray n ds ρ (Lq ++ Lp) o (fun v M => ∃ Lp', Ent (sl M) (sl (Lq' ++ Lp')) ∧ Ob w0 A ro P l n ds lou Lq' K π (updo ρ o.dst v) Lp')) :
    Ob w0 A ro P l n ds lou Lq K (i :: π) ρ Lp := by
  simp only [Ob, ObR, hi, hl, if_true]
  exact fun Q hn => h Q fun v M ⟨Lp', h1, h2⟩ => hn v M ⟨Lq', Lp', h1, .inr hs, h2⟩
end
end
end Go.Sl
