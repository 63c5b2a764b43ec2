/- Parts of a proof, in order. -/
import Derived.Test.YteokgobeafnpoaaZA2
import Derived.Laws.Strings

set_option linter.unusedSimpArgs false
set_option linter.unusedVariables false
/- A region that draws its order, with operations that float: they take nothing but what is read, and what they make is had later. Plain library, no program in sight. -/
namespace Go.Sl
open Go Go.Proofs

/-- What the walk does: an operation; a floating one told; what it made, had. -/
inductive It where
  | op (i : Nat)
  | dec (i : Nat)
  | join (i : Nat)
def It.ix : It → Nat
  | .op i => i
  | .dec i => i
  | .join i => i
def It.isJ : It → Bool
  | .join _ => true
  | _ => false
abbrev Kd := Value → List SProp → Prop
/-- The order in which the walk takes the operations. -/
def okOrderF (lou : List Nat) (b : List Nat) : List It → Bool
  | [] => true
  | .op i :: π => (!lou.contains i || π.all fun y => y.isJ || isAnc b y.ix i) && (π.all fun y => !isAnc b i y.ix) && (π.all fun y => y.ix != i) && okOrderF lou b π
  | .dec i :: π => (π.any fun y => y.isJ && y.ix == i) && (π.all fun y => !isAnc b i y.ix) && (π.all fun y => y.isJ || y.ix != i) && okOrderF lou b π
  | .join i :: π => (π.all fun y => y.isJ || isAnc b y.ix i) && (π.all fun y => !y.isJ || y.ix != i) && okOrderF lou b π
def okPermF (m : Nat) (π : List It) : Bool := ((π.filter fun y => !y.isJ).length == m) && ((List.range m).all fun i => π.any fun y => !y.isJ && y.ix == i) && (π.all fun y => Nat.blt y.ix m)
def okSyncF (b : List Nat) (m i : Nat) (π : List It) : Bool := (List.range m).all fun j => (π.any fun y => !y.isJ && y.ix == j) || (j == i || isAnc b i j)

def ObF (w0 : World) (A : SProp) (ro : Option Nat) (P : Program) (l : List Oper) (n : Nat) (ds : List Nat) (lou : List Nat) (K : (Nat → Value) → List SProp → Prop) : List It → List (Nat × Kd) → List SProp → (Nat → Value) → List SProp → Prop
  | [], _, Lq, ρ, Lp => K ρ (Lq ++ Lp)
  | .op i :: π, D, Lq, ρ, Lp => match l[i]? with
    | none => False
    | some o => if lou.contains i then
        ∀ X, OStep w0 (star A X) ro P l.toArray n ds ρ (Lq ++ Lp) o (fun v M => ∃ Lq' Lp', Ent (sl M) (sl (Lq' ++ Lp')) ∧ (Lq' = Lq ∨ okSyncF (masks l []) l.length i π = true) ∧ ObF w0 A ro P l n ds lou K π D Lq' (updo ρ o.dst v) Lp')
      else ∃ v, (∀ X, OStep w0 A ro P l.toArray n ds ρ (Lq ++ X) o (fun u M => u = v ∧ M = Lq ++ X)) ∧ ObF w0 A ro P l n ds lou K π D Lq (updo ρ o.dst v) Lp
  | .dec i :: π, D, Lq, ρ, Lp => match l[i]? with
    | none => False
    | some o => ∃ R : Kd, (∀ X, OStep w0 A ro P l.toArray n ds ρ (Lq ++ X) o (fun v M => ∃ M', Ent (sl M) (sl (Lq ++ (X ++ M'))) ∧ R v M')) ∧ ObF w0 A ro P l n ds lou K π ((i, R) :: D) Lq ρ Lp
  | .join i :: π, D, Lq, ρ, Lp => match l[i]? with
    | none => False
    | some o => ∃ R : Kd, (i, R) ∈ D ∧ ∀ v M, R v M → ObF w0 A ro P l n ds lou K π D Lq (updo ρ o.dst v) (M ++ Lp)

/-- Walked and not run: with the value it will have, or with what will be said of what it makes. -/
abbrev Pe := Nat × (Nat → Value) × (Value ⊕ Kd)
/-- Run, and not had yet. -/
abbrev Ee := Nat × Value × List SProp × Kd
def earV (l : List Oper) (ear : List Ee) (t : Nat) : Option Value := (ear.find? (fun e => dstAt l e.1 == some t)).map (·.2.1)
def EL (ear : List Ee) : List SProp := ear.flatMap (·.2.2.1)
def curF (l : List Oper) (ρ0 : Nat → Value) (pend : List Pe) (ear : List Ee) (ρf : Nat → Value) : Nat → Value := fun t => match earV l ear t with
  | some v => v
  | none => cond (pend.any (fun p => dstAt l p.1 == some t)) (ρ0 t) (ρf t)
theorem earV_some {l : List Oper} {ear : List Ee} {t : Nat} {v : Value} (h : earV l ear t = some v) : ∃ e ∈ ear, dstAt l e.1 = some t ∧ e.2.1 = v := by
  unfold earV at h
  rw [Option.map_eq_some_iff] at h
  obtain ⟨e, he, hv⟩ := h
  exact ⟨e, List.mem_of_find?_eq_some he, by simpa using List.find?_some he, hv⟩
theorem earV_none {l : List Oper} {ear : List Ee} {t : Nat} (h : ∀ e ∈ ear, dstAt l e.1 ≠ some t) : earV l ear t = none := by
  unfold earV
  rw [Option.map_eq_none_iff, List.find?_eq_none]
  intro e he
  simpa using h e he
theorem earV_drop {l : List Oper} {ea eb : List Ee} {e : Ee} {t : Nat} (h : dstAt l e.1 ≠ some t) : earV l (ea ++ e :: eb) t = earV l (ea ++ eb) t := by
  unfold earV
  congr 1
  rw [List.find?_append, List.find?_append, List.find?_cons]
  have : (dstAt l e.1 == some t) = false := by simpa using h
  rw [this]
theorem earV_cons {l : List Oper} {ear : List Ee} {e : Ee} {t : Nat} (h : dstAt l e.1 ≠ some t) : earV l (e :: ear) t = earV l ear t := earV_drop (ea := []) h
theorem earV_head {l : List Oper} {ear : List Ee} {e : Ee} {t : Nat} (h : dstAt l e.1 = some t) : earV l (e :: ear) t = some e.2.1 := by
  unfold earV
  rw [List.find?_cons]
  simp [h]

section
variable {w0 : World} {A : SProp} {ro : Option Nat} {P : Program} {n : Nat} {ds : List Nat}
structure InvF (w0 : World) (A : SProp) (ro : Option Nat) (P : Program) (l : List Oper) (n : Nat) (ds : List Nat) (b : List Nat) (Lq : List SProp) (ρ0 : Nat → Value) (listed : Array Bool) (π : List It) (D : List (Nat × Kd)) (pend : List Pe) (ear : List Ee) (ρf : Nat → Value) : Prop where
  sz : listed.size = l.length
  inπ : ∀ x ∈ π, x.isJ = false → x.ix < l.length ∧ listed.getD x.ix false = false ∧ ∀ p ∈ pend, p.1 ≠ x.ix
  inP : ∀ p ∈ pend, p.1 < l.length ∧ listed.getD p.1 false = false
  inE : ∀ e ∈ ear, e.1 < l.length ∧ listed.getD e.1 false = true ∧ It.join e.1 ∈ π ∧ e.2.2.2 e.2.1 e.2.2.1
  all : ∀ j, j < l.length → listed.getD j false = true ∨ (∃ p ∈ pend, p.1 = j) ∨ ∃ x ∈ π, x.isJ = false ∧ x.ix = j
  nP : (pend.map (·.1)).Nodup
  nE : (ear.map (·.1)).Nodup
  closed : ∀ i j, listed.getD i false = true → isAnc b i j = true → j < l.length → listed.getD j false = true
  base : ∀ t, (∀ j, j < l.length → (∀ x ∈ π, x.ix ≠ j) → dstAt l j ≠ some t) → ρf t = ρ0 t
  pa : ∀ p ∈ pend, ∀ x ∈ π, isAnc b p.1 x.ix = false
  pq : ∀ p ∈ pend, ∀ o, l[p.1]? = some o → (match p.2.2 with
      | .inl v => (∀ X, OStep w0 A ro P l.toArray n ds p.2.1 (Lq ++ X) o (fun u M => u = v ∧ M = Lq ++ X)) ∧ (∀ d, o.dst = some d → ρf d = v)
      | .inr R => (∀ X, OStep w0 A ro P l.toArray n ds p.2.1 (Lq ++ X) o (fun v M => ∃ M', Ent (sl M) (sl (Lq ++ (X ++ M'))) ∧ R v M')) ∧ It.join p.1 ∈ π) ∧
    ∀ t ∈ o.looksAt l.toArray, ((∃ j, j < l.length ∧ isAnc b p.1 j = true ∧ dstAt l j = some t) → p.2.1 t = ρf t) ∧ ((∀ j, j < l.length → isAnc b p.1 j = true → dstAt l j ≠ some t) → p.2.1 t = ρ0 t)
  dl : ∀ q ∈ D, (∃ p ∈ pend, p.1 = q.1 ∧ p.2.2 = .inr q.2) ∨ (∃ e ∈ ear, e.1 = q.1 ∧ e.2.2.2 = q.2) ∨ (∀ x ∈ π, x.ix ≠ q.1)

variable {l : List Oper} {b lou : List Nat} {Lq : List SProp} {ρ0 : Nat → Value} {K : (Nat → Value) → List SProp → Prop}

theorem okF_tail {x : It} {π : List It} (h : okOrderF lou b (x :: π) = true) : okOrderF lou b π = true := by
  cases x <;> simp only [okOrderF, Bool.and_eq_true] at h <;> exact h.2
theorem okF_anc {x : It} {π : List It} (h : okOrderF lou b (x :: π) = true) (hx : x.isJ = false) : ∀ y ∈ π, isAnc b x.ix y.ix = false := by
  cases x with
  | join i => cases hx
  | op i =>
    simp only [okOrderF, Bool.and_eq_true, List.all_eq_true] at h
    intro y hy; simpa [It.ix] using h.1.1.2 y hy
  | dec i =>
    simp only [okOrderF, Bool.and_eq_true, List.all_eq_true] at h
    intro y hy; simpa [It.ix] using h.1.1.2 y hy
theorem okF_ne {x : It} {π : List It} (h : okOrderF lou b (x :: π) = true) (hx : x.isJ = false) : ∀ y ∈ π, y.isJ = false → y.ix ≠ x.ix := by
  cases x with
  | join i => cases hx
  | op i =>
    simp only [okOrderF, Bool.and_eq_true, List.all_eq_true] at h
    intro y hy hj; simpa [It.ix] using h.1.2 y hy
  | dec i =>
    simp only [okOrderF, Bool.and_eq_true, List.all_eq_true] at h
    intro y hy hj; simpa [hj, It.ix] using h.1.2 y hy

/-- A quiet operation, or a floating one, is walked. -/
theorem InvF.push (rf : RegFacts l n b) {listed : Array Bool} {x : It} {π : List It} {D D' : List (Nat × Kd)} {pend : List Pe} {ear : List Ee} {ρf ρf' : Nat → Value} {o : Oper} {kd : Value ⊕ Kd} (h : InvF w0 A ro P l n ds b Lq ρ0 listed (x :: π) D pend ear ρf)
    (ho : okOrderF lou b (x :: π) = true) (hx : x.isJ = false) (hk : l[x.ix]? = some o) (hρ : ∀ t, dstAt l x.ix ≠ some t → ρf' t = ρf t)
    (hkd : match kd with
      | .inl v => (∀ X, OStep w0 A ro P l.toArray n ds ρf (Lq ++ X) o (fun u M => u = v ∧ M = Lq ++ X)) ∧ (∀ d, o.dst = some d → ρf' d = v) ∧ (∀ y ∈ π, y.ix ≠ x.ix)
      | .inr R => (∀ X, OStep w0 A ro P l.toArray n ds ρf (Lq ++ X) o (fun v M => ∃ M', Ent (sl M) (sl (Lq ++ (X ++ M'))) ∧ R v M')) ∧ It.join x.ix ∈ π ∧ ρf' = ρf)
    (hD : match kd with
      | .inl _ => D' = D
      | .inr R => D' = (x.ix, R) :: D) :
    InvF w0 A ro P l n ds b Lq ρ0 listed π D' ((x.ix, ρf, kd) :: pend) ear ρf' ∧ curF l ρ0 ((x.ix, ρf, kd) :: pend) ear ρf' = curF l ρ0 pend ear ρf := by
  have hkl : x.ix < l.length := (List.getElem?_eq_some_iff.1 hk).1
  have hkd' := dstAt_of hk
  obtain ⟨_, hkn, hkp⟩ := h.inπ x List.mem_cons_self hx
  have hbase : ∀ t, dstAt l x.ix = some t → ρf t = ρ0 t := fun t ht => h.base t fun j hj hjn e => hjn x List.mem_cons_self (rf.dne j x.ix t hj hkl e ht).symm
  refine ⟨⟨h.sz, ?_, ?_, ?_, ?_, ?_, h.nE, h.closed, ?_, ?_, ?_, ?_⟩, ?_⟩
  · intro y hy hj
    obtain ⟨h1, h2, h3⟩ := h.inπ y (List.mem_cons_of_mem _ hy) hj
    refine ⟨h1, h2, fun p hp => ?_⟩
    rcases List.mem_cons.1 hp with rfl | hp
    · exact (okF_ne ho hx y hy hj).symm
    · exact h3 p hp
  · intro p hp
    rcases List.mem_cons.1 hp with rfl | hp
    · exact ⟨hkl, hkn⟩
    · exact h.inP p hp
  · intro e he
    obtain ⟨h1, h2, h3, h4⟩ := h.inE e he
    refine ⟨h1, h2, ?_, h4⟩
    rcases List.mem_cons.1 h3 with h3 | h3
    · rw [← h3] at hx; cases hx
    · exact h3
  · intro j hj
    rcases h.all j hj with h1 | ⟨p, hp, rfl⟩ | ⟨y, hy, h1, h2⟩
    · exact .inl h1
    · exact .inr (.inl ⟨p, List.mem_cons_of_mem _ hp, rfl⟩)
    · rcases List.mem_cons.1 hy with rfl | hy
      · exact .inr (.inl ⟨_, List.mem_cons_self, h2⟩)
      · exact .inr (.inr ⟨y, hy, h1, h2⟩)
  · rw [List.map_cons, List.nodup_cons]
    refine ⟨fun hm => ?_, h.nP⟩
    obtain ⟨p, hp, e⟩ := List.mem_map.1 hm
    exact hkp p hp e
  · intro t ht
    have hs : ∀ (_ : dstAt l x.ix ≠ some t), ρf' t = ρ0 t := fun hne => by
      rw [hρ t hne]
      refine h.base t fun j hj hjn => ht j hj fun y hy => hjn y (List.mem_cons_of_mem _ hy)
    cases kd with
    | inl v =>
      exact hs (ht x.ix hkl hkd.2.2)
    | inr R =>
      by_cases e : dstAt l x.ix = some t
      · rw [hkd.2.2]; exact hbase t e
      · exact hs e
  · intro p hp y hy
    rcases List.mem_cons.1 hp with rfl | hp
    · exact okF_anc ho hx y hy
    · exact h.pa p hp y (List.mem_cons_of_mem _ hy)
  · intro p hp o' ho'
    rcases List.mem_cons.1 hp with rfl | hp
    · rw [hk] at ho'
      obtain rfl := Option.some.inj ho'
      refine ⟨?_, fun t ht => ⟨?_, ?_⟩⟩
      · cases kd with
        | inl v => exact ⟨hkd.1, hkd.2.1⟩
        | inr R => exact ⟨hkd.1, hkd.2.1⟩
      · rintro ⟨j, hj, ha, hd⟩
        refine (hρ t fun e => ?_).symm
        have : j = x.ix := rf.dne j x.ix t hj hkl hd e
        subst this
        rw [rf.irr _ hj] at ha; cases ha
      · intro hno
        refine h.base t fun j hj hjn e => ?_
        rcases rf.look x.ix o hk t ht j hj e with h1 | h1 | h1
        · exact hno j hj h1 e
        · exact hjn x List.mem_cons_self h1
        · rcases h.all j hj with h2 | ⟨p, hp, rfl⟩ | ⟨y, hy, _, h2⟩
          · have := h.closed j x.ix h2 h1 hkl
            rw [hkn] at this; cases this
          · rw [h.pa p hp x List.mem_cons_self] at h1; cases h1
          · exact hjn y hy h2
    · obtain ⟨h1, h3⟩ := h.pq p hp o' ho'
      have hne : p.1 ≠ x.ix := hkp p hp
      have hpl := (h.inP p hp).1
      have hpak := h.pa p hp x List.mem_cons_self
      refine ⟨?_, fun t ht => ⟨?_, (h3 t ht).2⟩⟩
      · cases hq : p.2.2 with
        | inl v =>
          rw [hq] at h1
          refine ⟨h1.1, fun d hd => ?_⟩
          rw [hρ d]
          · exact h1.2 d hd
          · intro e
            exact hne (rf.dne p.1 x.ix d hpl hkl (by rw [dstAt_of ho']; exact hd) e)
        | inr R =>
          rw [hq] at h1
          refine ⟨h1.1, ?_⟩
          rcases List.mem_cons.1 h1.2 with h4 | h4
          · rw [← h4] at hx; cases hx
          · exact h4
      · rintro ⟨j, hj, ha, hd⟩
        rw [(h3 t ht).1 ⟨j, hj, ha, hd⟩]
        refine (hρ t fun e => ?_).symm
        have : j = x.ix := rf.dne j x.ix t hj hkl hd e
        subst this
        rw [hpak] at ha; cases ha
  · have hold : ∀ q ∈ D, (∃ p ∈ ((x.ix, ρf, kd) :: pend : List Pe), p.1 = q.1 ∧ p.2.2 = .inr q.2) ∨ (∃ e ∈ ear, e.1 = q.1 ∧ e.2.2.2 = q.2) ∨ (∀ y ∈ π, y.ix ≠ q.1) := by
      intro q hq
      rcases h.dl q hq with ⟨p, hp, h1⟩ | h1 | h1
      · exact .inl ⟨p, List.mem_cons_of_mem _ hp, h1⟩
      · exact .inr (.inl h1)
      · exact .inr (.inr fun y hy => h1 y (List.mem_cons_of_mem _ hy))
    cases kd with
    | inl v => rw [hD]; exact hold
    | inr R =>
      rw [hD]
      intro q hq
      rcases List.mem_cons.1 hq with rfl | hq
      · exact .inl ⟨_, List.mem_cons_self, rfl, rfl⟩
      · exact hold q hq
  · funext t
    unfold curF
    cases earV l ear t with
    | some v => rfl
    | none =>
      simp only [List.any_cons]
      by_cases e : dstAt l x.ix = some t
      · have hno : pend.any (fun p => dstAt l p.1 == some t) = false := by
          rw [List.any_eq_false]
          intro p hp
          simp only [beq_iff_eq]
          intro e2
          exact hkp p hp (rf.dne p.1 x.ix t (h.inP p hp).1 hkl e2 e)
        simp [e, hno, hbase t e]
      · have e1 : (dstAt l x.ix == some t) = false := by simpa using e
        rw [e1, Bool.false_or, hρ t e]

/-- What was made ahead of its time is had. -/
theorem InvF.absorb (rf : RegFacts l n b) {listed : Array Bool} {f : Nat} {π : List It} {D : List (Nat × Kd)} {pend : List Pe} {ear : List Ee} {ρf : Nat → Value} {Lp : List SProp} (h : InvF w0 A ro P l n ds b Lq ρ0 listed (.join f :: π) D pend ear ρf)
    (ho : okOrderF lou b (.join f :: π) = true) (hf : listed.getD f false = true) (hob : ObF w0 A ro P l n ds lou K (.join f :: π) D Lq ρf Lp) :
    ∃ ear' ρf' Lp', InvF w0 A ro P l n ds b Lq ρ0 listed π D pend ear' ρf' ∧ ObF w0 A ro P l n ds lou K π D Lq ρf' Lp' ∧ curF l ρ0 pend ear' ρf' = curF l ρ0 pend ear ρf ∧ (Lp ++ EL ear).Perm (Lp' ++ EL ear') := by
  simp only [ObF] at hob
  cases hk : l[f]? with
  | none => rw [hk] at hob; exact hob.elim
  | some o =>
    rw [hk] at hob
    obtain ⟨R, hR, hnext⟩ := hob
    have hfl : f < l.length := (List.getElem?_eq_some_iff.1 hk).1
    have hdf := dstAt_of hk
    simp only [okOrderF, Bool.and_eq_true, List.all_eq_true] at ho
    have hnj : ∀ y ∈ π, y.ix ≠ f := fun y hy e => by
      have h1 := ho.1.1 y hy
      have h2 := ho.1.2 y hy
      cases hj : y.isJ with
      | true => rw [hj] at h2; simp [e] at h2
      | false =>
        rw [hj] at h1
        simp only [Bool.false_or] at h1
        rw [e, rf.irr f hfl] at h1; cases h1
    have hpf : ∀ p ∈ pend, p.1 ≠ f := fun p hp e => by
      have := (h.inP p hp).2
      rw [e, hf] at this; cases this
    rcases h.dl (f, R) hR with ⟨p, hp, h1, _⟩ | ⟨e, he, h1, h2⟩ | h1
    · exact absurd h1 (hpf p hp)
    · obtain ⟨ea, eb, hee⟩ := List.append_of_mem he
      have h1 : e.1 = f := h1
      have h2 : e.2.2.2 = R := h2
      have hRv : R e.2.1 e.2.2.1 := h2 ▸ (h.inE e he).2.2.2
      have hnE := h.nE
      rw [hee, List.map_append, List.map_cons] at hnE
      have hsplit := List.nodup_append.1 hnE
      have hne : ∀ q ∈ ea ++ eb, q.1 ≠ f := by
        intro q hq e2
        rcases List.mem_append.1 hq with hq | hq
        · exact hsplit.2.2 q.1 (List.mem_map.2 ⟨q, hq, rfl⟩) e.1 List.mem_cons_self (by rw [e2, h1])
        · exact (List.nodup_cons.1 hsplit.2.1).1 (by rw [h1, ← e2]; exact List.mem_map.2 ⟨q, hq, rfl⟩)
      have hmem : ∀ q, q ∈ ea ++ eb → q ∈ ear := fun q hq => by
        rw [hee]
        rcases List.mem_append.1 hq with hq | hq
        · exact List.mem_append_left _ hq
        · exact List.mem_append_right _ (List.mem_cons_of_mem _ hq)
      have hmem' : ∀ q, q ∈ ear → q = e ∨ q ∈ ea ++ eb := fun q hq => by
        rw [hee] at hq
        rcases List.mem_append.1 hq with hq | hq
        · exact .inr (List.mem_append_left _ hq)
        · rcases List.mem_cons.1 hq with hq | hq
          · exact .inl hq
          · exact .inr (List.mem_append_right _ hq)
      refine ⟨ea ++ eb, updo ρf o.dst e.2.1, e.2.2.1 ++ Lp, ⟨h.sz, ?_, h.inP, ?_, ?_, h.nP, ?_, h.closed, ?_, ?_, ?_, ?_⟩, hnext _ _ hRv, ?_, ?_⟩
      · exact fun y hy hj => h.inπ y (List.mem_cons_of_mem _ hy) hj
      · intro q hq
        obtain ⟨a1, a2, a3, a4⟩ := h.inE q (hmem q hq)
        refine ⟨a1, a2, ?_, a4⟩
        rcases List.mem_cons.1 a3 with a3 | a3
        · exact absurd (by simpa using a3) (hne q hq)
        · exact a3
      · intro j hj
        rcases h.all j hj with a1 | a1 | ⟨y, hy, a1, a2⟩
        · exact .inl a1
        · exact .inr (.inl a1)
        · rcases List.mem_cons.1 hy with rfl | hy
          · cases a1
          · exact .inr (.inr ⟨y, hy, a1, a2⟩)
      · rw [List.map_append, List.nodup_append]
        exact ⟨hsplit.1, (List.nodup_cons.1 hsplit.2.1).2, fun x hx y hy => hsplit.2.2 x hx y (List.mem_cons_of_mem _ hy)⟩
      · intro t ht
        rw [updo_ne (by rw [← hdf]; exact ht f hfl hnj)]
        refine h.base t fun j hj hjn => ht j hj fun y hy => hjn y (List.mem_cons_of_mem _ hy)
      · exact fun p hp y hy => h.pa p hp y (List.mem_cons_of_mem _ hy)
      · intro p hp o' ho'
        obtain ⟨a1, a3⟩ := h.pq p hp o' ho'
        refine ⟨?_, fun t ht => ⟨?_, (a3 t ht).2⟩⟩
        · cases hq : p.2.2 with
          | inl v =>
            rw [hq] at a1
            refine ⟨a1.1, fun d hd => ?_⟩
            rw [updo_ne]
            · exact a1.2 d hd
            · intro e2
              exact hpf p hp (rf.dne p.1 f d (h.inP p hp).1 hfl (by rw [dstAt_of ho']; exact hd) (by rw [hdf]; exact e2))
          | inr R' =>
            rw [hq] at a1
            refine ⟨a1.1, ?_⟩
            rcases List.mem_cons.1 a1.2 with a4 | a4
            · exact absurd (by simpa using a4) (hpf p hp)
            · exact a4
        · rintro ⟨j, hj, ha, hd⟩
          rw [(a3 t ht).1 ⟨j, hj, ha, hd⟩]
          refine (updo_ne fun e2 => ?_).symm
          have : j = f := rf.dne j f t hj hfl hd (by rw [hdf]; exact e2)
          subst this
          have := h.pa p hp (.join j) List.mem_cons_self
          simp only [It.ix] at this
          rw [this] at ha; cases ha
      · intro q hq
        rcases h.dl q hq with a1 | ⟨e', he', a1, a2⟩ | a1
        · exact .inl a1
        · rcases hmem' e' he' with rfl | he'
          · exact .inr (.inr fun y hy => by rw [← a1, h1]; exact hnj y hy)
          · exact .inr (.inl ⟨e', he', a1, a2⟩)
        · exact .inr (.inr fun y hy => a1 y (List.mem_cons_of_mem _ hy))
      · funext t
        unfold curF
        by_cases e2 : dstAt l f = some t
        · have hl1 : earV l ear t = some e.2.1 := by
            cases hc : earV l ear t with
            | none =>
              exfalso
              unfold earV at hc
              rw [Option.map_eq_none_iff, List.find?_eq_none] at hc
              have := hc e he
              rw [h1, e2] at this
              simp at this
            | some v =>
              obtain ⟨e', he', b1, b2⟩ := earV_some hc
              have b3 : e'.1 = f := rf.dne e'.1 f t (h.inE e' he').1 hfl b1 e2
              rcases hmem' e' he' with rfl | he''
              · rw [b2]
              · exact absurd b3 (hne e' he'')
          have hl2 : earV l (ea ++ eb) t = none := earV_none fun q hq b1 => hne q hq (rf.dne q.1 f t (h.inE q (hmem q hq)).1 hfl b1 e2)
          have hno : pend.any (fun p => dstAt l p.1 == some t) = false := by
            rw [List.any_eq_false]
            intro p hp
            simp only [beq_iff_eq]
            intro b1
            exact hpf p hp (rf.dne p.1 f t (h.inP p hp).1 hfl b1 e2)
          rw [hl1, hl2]
          simp only [hno, cond_false]
          have : o.dst = some t := by rw [← hdf]; exact e2
          rw [this]
          simp [updo, upd_same]
        · have : earV l ear t = earV l (ea ++ eb) t := by rw [hee]; exact earV_drop (by rw [h1]; exact e2)
          rw [this, updo_ne (by rw [← hdf]; exact e2)]
      · rw [hee]
        simp only [EL, List.flatMap_append, List.flatMap_cons]
        have : (Lp ++ (List.flatMap (fun x : Ee => x.2.2.1) ea ++ (e.2.2.1 ++ List.flatMap (fun x : Ee => x.2.2.1) eb))).Perm (e.2.2.1 ++ (Lp ++ (List.flatMap (fun x : Ee => x.2.2.1) ea ++ List.flatMap (fun x : Ee => x.2.2.1) eb))) := by
          rw [← List.append_assoc Lp, ← List.append_assoc Lp]
          exact (List.perm_append_comm_assoc _ _ _)
        simpa using this
    · exact absurd rfl (h1 (.join f) List.mem_cons_self)

/-- Walked till i is reached. -/
theorem InvF.pops (rf : RegFacts l n b) {listed : Array Bool} {x0 : It} {πb : List It} (hx0 : x0.isJ = false) : ∀ (πa : List It) {D : List (Nat × Kd)} {pend : List Pe} {ear : List Ee} {ρf : Nat → Value} {Lp : List SProp}, InvF w0 A ro P l n ds b Lq ρ0 listed (πa ++ x0 :: πb) D pend ear ρf →
    okOrderF lou b (πa ++ x0 :: πb) = true → (∀ k, isAnc b x0.ix k = true → k < l.length → listed.getD k false = true) → ObF w0 A ro P l n ds lou K (πa ++ x0 :: πb) D Lq ρf Lp →
    ∃ D' pend' ear' ρf' Lp', InvF w0 A ro P l n ds b Lq ρ0 listed (x0 :: πb) D' pend' ear' ρf' ∧ okOrderF lou b (x0 :: πb) = true ∧ ObF w0 A ro P l n ds lou K (x0 :: πb) D' Lq ρf' Lp' ∧ curF l ρ0 pend' ear' ρf' = curF l ρ0 pend ear ρf ∧
      pend'.length = pend.length + (πa.filter fun y => !y.isJ).length ∧ (Lp ++ EL ear).Perm (Lp' ++ EL ear')
  | [], D, pend, ear, ρf, Lp, h, ho, _, hob => ⟨D, pend, ear, ρf, Lp, h, ho, hob, rfl, by simp, .refl _⟩
  | .join f :: πa, D, pend, ear, ρf, Lp, h, ho, hr, hob => by
    have ho' : okOrderF lou b (.join f :: (πa ++ x0 :: πb)) = true := ho
    have hlf : listed.getD f false = true := by
      have h1 := ho'
      simp only [okOrderF, Bool.and_eq_true, List.all_eq_true] at h1
      have h2 := h1.1.1 x0 (by simp)
      rw [hx0] at h2
      simp only [Bool.false_or] at h2
      have hff : f < l.length := by
        have hob' : ObF w0 A ro P l n ds lou K (.join f :: (πa ++ x0 :: πb)) D Lq ρf Lp := hob
        simp only [ObF] at hob'
        cases hc : l[f]? with
        | none => rw [hc] at hob'; exact hob'.elim
        | some o => exact (List.getElem?_eq_some_iff.1 hc).1
      exact hr f h2 hff
    obtain ⟨ear1, ρf1, Lp1, h1, hob1, hc1, hp1⟩ := InvF.absorb (π := πa ++ x0 :: πb) rf h ho' hlf hob
    obtain ⟨D', pend', ear', ρf', Lp', a1, a2, a3, a4, a5, a6⟩ := InvF.pops rf hx0 πa h1 (okF_tail ho') hr hob1
    exact ⟨D', pend', ear', ρf', Lp', a1, a2, a3, a4.trans hc1, by rw [a5]; simp [It.isJ], hp1.trans a6⟩
  | .dec k :: πa, D, pend, ear, ρf, Lp, h, ho, hr, hob => by
    have ho' : okOrderF lou b (.dec k :: (πa ++ x0 :: πb)) = true := ho
    have hob' : ObF w0 A ro P l n ds lou K (.dec k :: (πa ++ x0 :: πb)) D Lq ρf Lp := hob
    simp only [ObF] at hob'
    cases hk : l[k]? with
    | none => rw [hk] at hob'; exact hob'.elim
    | some o =>
      rw [hk] at hob'
      obtain ⟨R, hst, hrest⟩ := hob'
      have hj : It.join k ∈ πa ++ x0 :: πb := by
        have h1 := ho'
        simp only [okOrderF, Bool.and_eq_true, List.any_eq_true] at h1
        obtain ⟨y, hy, hy1, hy2⟩ := h1.1.1.1
        cases y with
        | op i => cases hy1
        | dec i => cases hy1
        | join i =>
          have : i = k := by simpa [It.ix] using hy2
          subst this; exact hy
      obtain ⟨hi, hc⟩ := InvF.push (x := .dec k) (π := πa ++ x0 :: πb) (kd := .inr R) (ρf' := ρf) rf h ho' rfl hk (fun _ _ => rfl) ⟨hst, hj, rfl⟩ rfl
      obtain ⟨D', pend', ear', ρf', Lp', a1, a2, a3, a4, a5, a6⟩ := InvF.pops rf hx0 πa hi (okF_tail ho') hr hrest
      exact ⟨D', pend', ear', ρf', Lp', a1, a2, a3, a4.trans hc, by rw [a5]; simp [It.isJ]; omega, a6⟩
  | .op k :: πa, D, pend, ear, ρf, Lp, h, ho, hr, hob => by
    have ho' : okOrderF lou b (.op k :: (πa ++ x0 :: πb)) = true := ho
    have hob' : ObF w0 A ro P l n ds lou K (.op k :: (πa ++ x0 :: πb)) D Lq ρf Lp := hob
    have h1 := ho'
    simp only [okOrderF, Bool.and_eq_true, List.all_eq_true] at h1
    have hq : lou.contains k = false := by
      cases hc : lou.contains k with
      | false => rfl
      | true =>
        have h1 := h1.1.1.1
        rw [hc] at h1
        simp only [Bool.not_true, Bool.false_or, List.all_eq_true] at h1
        have h2 := h1 x0 (by simp)
        rw [hx0] at h2
        simp only [Bool.false_or] at h2
        obtain ⟨h3, h4, _⟩ := h.inπ (.op k) (by simp) rfl
        have : listed.getD k false = true := hr k h2 h3
        simp only [It.ix] at h4
        rw [this] at h4; cases h4
    simp only [ObF] at hob'
    cases hk : l[k]? with
    | none => rw [hk] at hob'; exact hob'.elim
    | some o =>
      rw [hk] at hob'
      simp only [hq] at hob'
      obtain ⟨v, hst, hrest⟩ := hob'
      have hne : ∀ y ∈ πa ++ x0 :: πb, y.ix ≠ k := fun y hy => by
        have := h1.1.2 y hy
        simpa using this
      obtain ⟨hi, hc⟩ := InvF.push (x := .op k) (π := πa ++ x0 :: πb) (kd := .inl v) (ρf' := updo ρf o.dst v) rf h ho' rfl hk (fun t ht => updo_ne (by rw [← dstAt_of hk]; exact ht)) ⟨hst, fun d hd => by rw [hd]; simp [updo, upd_same], hne⟩ rfl
      obtain ⟨D', pend', ear', ρf', Lp', a1, a2, a3, a4, a5, a6⟩ := InvF.pops rf hx0 πa hi (okF_tail ho') hr hrest
      exact ⟨D', pend', ear', ρf', Lp', a1, a2, a3, a4.trans hc, by rw [a5]; simp [It.isJ]; omega, a6⟩

theorem nonJ_split {π : List It} {i : Nat} (h : ∃ x ∈ π, x.isJ = false ∧ x.ix = i) : ∃ πa x πb, π = πa ++ x :: πb ∧ x.isJ = false ∧ x.ix = i := by
  obtain ⟨x, hx, h1, h2⟩ := h
  obtain ⟨πa, πb, e⟩ := List.append_of_mem hx
  exact ⟨πa, x, πb, e, h1, h2⟩

/-- Nothing is left but what was made and is to be had. -/
theorem InvF.finish (rf : RegFacts l n b) {listed : Array Bool} : ∀ (π : List It) {D : List (Nat × Kd)} {ear : List Ee} {ρf : Nat → Value} {Lp : List SProp}, InvF w0 A ro P l n ds b Lq ρ0 listed π D [] ear ρf → okOrderF lou b π = true → (∀ x ∈ π, x.isJ = true) → (∀ j, j < l.length → listed.getD j false = true) →
    ObF w0 A ro P l n ds lou K π D Lq ρf Lp → ∃ ρ' Lp', K ρ' (Lq ++ Lp') ∧ ρ' = curF l ρ0 [] ear ρf ∧ (Lp ++ EL ear).Perm Lp'
  | [], D, ear, ρf, Lp, h, _, _, _, hob => by
    have he : ear = [] := by
      cases hc : ear with
      | nil => rfl
      | cons e r => have := (h.inE e (by rw [hc]; exact List.mem_cons_self)).2.2.1; cases this
    subst he
    refine ⟨ρf, Lp, hob, ?_, by simp [EL]⟩
    funext t
    simp [curF, earV]
  | x :: π, D, ear, ρf, Lp, h, ho, hj, hl, hob => by
    have hx := hj x List.mem_cons_self
    cases x with
    | op i => cases hx
    | dec i => cases hx
    | join f =>
      have hff : f < l.length := by
        have hob' := hob
        simp only [ObF] at hob'
        cases hc : l[f]? with
        | none => rw [hc] at hob'; exact hob'.elim
        | some o => exact (List.getElem?_eq_some_iff.1 hc).1
      obtain ⟨ear1, ρf1, Lp1, h1, hob1, hc1, hp1⟩ := InvF.absorb rf h ho (hl f hff) hob
      obtain ⟨ρ', Lp', a1, a2, a3⟩ := InvF.finish rf π h1 (okF_tail ho) (fun y hy => hj y (List.mem_cons_of_mem _ hy)) hl hob1
      exact ⟨ρ', Lp', a1, a2.trans hc1, hp1.trans a3⟩

theorem draw_soundF (rf : RegFacts l n b) (hbm : b = masks l []) {Q : Exit → Act → World → Prop} (hK : ∀ ρ L, K ρ L → G w0 A L (fun w => Q .normal (act n ρ ds) w)) :
    ∀ (k : Nat) (Lq : List SProp) (listed : Array Bool) (π : List It) (D : List (Nat × Kd)) (pend : List Pe) (ear : List Ee) (ρf : Nat → Value) (Lp : List SProp) (w : World), InvF w0 A ro P l n ds b Lq ρ0 listed π D pend ear ρf → okOrderF lou b π = true → ObF w0 A ro P l n ds lou K π D Lq ρf Lp →
      k = pend.length + (π.filter fun y => !y.isJ).length → Std w0 w → holds (star A (sl (Lq ++ (Lp ++ EL ear)))) w → wpAnyIn (WF ro) 0 P .any l.toArray Q k listed (act n (curF l ρ0 pend ear ρf) ds) w := by
  intro k
  induction k with
  | zero =>
    intro Lq listed π D pend ear ρf Lp w hI ho hob hk hw hh
    have hp : pend = [] := List.eq_nil_of_length_eq_zero (by omega)
    have hπ : (π.filter fun y => !y.isJ) = [] := List.eq_nil_of_length_eq_zero (by omega)
    rw [List.filter_eq_nil_iff] at hπ
    have hπ : ∀ x ∈ π, x.isJ = true := fun x hx => by simpa using hπ x hx
    subst hp
    have hl : ∀ j, j < l.length → listed.getD j false = true := fun j hj => by
      rcases hI.all j hj with h1 | ⟨p, hp, _⟩ | ⟨x, hx, h1, _⟩
      · exact h1
      · cases hp
      · rw [hπ x hx] at h1; cases h1
    refine ⟨?_, ?_⟩
    · unfold Region.ready
      rw [List.filter_eq_nil_iff]
      intro i hi
      have hil : i < l.length := by simpa using hi
      have h1 := hl i hil
      have h2 : listed.getD i true = true := by
        have his : i < listed.size := by rw [hI.sz]; exact hil
        simp [his] at h1 ⊢
        exact h1
      rw [h2]
      simp
    · obtain ⟨ρ', Lp', a1, a2, a3⟩ := InvF.finish rf π hI ho hπ hl hob
      rw [← a2]
      exact hK ρ' _ a1 w hw (hh.ent ((Ent.refl A).star (sl_perm (a3.append_left Lq))))
  | succ k ih =>
    intro Lq listed π D pend ear ρf Lp w hI ho hob hk hw hh
    have getT : ∀ i, i < l.length → listed.getD i true = listed.getD i false := fun i hi => by
      have his : i < listed.size := by rw [hI.sz]; exact hi
      simp [his]
    refine ⟨?_, ?_⟩
    · -- something is ready: the least that is not listed
      intro hnil
      exfalso
      obtain ⟨j, hj, hjl⟩ : ∃ j, j < l.length ∧ listed.getD j false = false := by
        cases hpd : pend with
        | cons p _ => exact ⟨p.1, (hI.inP p (by rw [hpd]; exact List.mem_cons_self)).1, (hI.inP p (by rw [hpd]; exact List.mem_cons_self)).2⟩
        | nil =>
          cases hf : (π.filter fun y => !y.isJ) with
          | cons x _ =>
            have hx : x ∈ π.filter fun y => !y.isJ := by rw [hf]; exact List.mem_cons_self
            rw [List.mem_filter] at hx
            have h1 := hI.inπ x hx.1 (by simpa using hx.2)
            exact ⟨x.ix, h1.1, h1.2.1⟩
          | nil => rw [hpd, hf] at hk; simp at hk
      have key : ∀ j, j < l.length → listed.getD j false = true := by
        intro j
        induction j using Nat.strongRecOn with
        | _ j ihj =>
          intro hj
          cases hc : listed.getD j false with
          | true => rfl
          | false =>
            have : j ∈ Region.ready .any l.toArray listed := by
              unfold Region.ready
              rw [List.mem_filter]
              refine ⟨by simpa using hj, ?_⟩
              rw [getT j hj, hc]
              simp only [Bool.not_false, Bool.true_and, List.getElem?_toArray, List.getElem?_eq_getElem hj, Option.map_some, Option.getD_some]
              rw [Array.all_eq_true_iff_forall_mem]
              intro e he
              cases hb : Region.binds .any e with
              | false => rfl
              | true =>
                have hlt := rf.back j l[j] (List.getElem?_eq_getElem hj) e he hb
                simpa using ihj e.on hlt (by omega)
            rw [hnil] at this; cases this
      rw [key j hj] at hjl; cases hjl
    · intro i hi
      unfold Region.ready at hi
      rw [List.mem_filter] at hi
      obtain ⟨hil, hi⟩ := hi
      have hil : i < l.length := by simpa using hil
      rw [getT i hil] at hi
      simp only [Bool.and_eq_true, List.getElem?_toArray, List.getElem?_eq_getElem hil, Option.map_some, Option.getD_some] at hi
      obtain ⟨hnl, hed⟩ := hi
      have hnl : listed.getD i false = false := by simpa using hnl
      rw [Array.all_eq_true_iff_forall_mem] at hed
      have hoi : l[i]? = some l[i] := List.getElem?_eq_getElem hil
      -- its ancestors are listed
      have hanc : ∀ j, isAnc b i j = true → j < l.length → listed.getD j false = true := by
        intro j ha hj
        obtain ⟨e, he, hb, hx⟩ := rf.step i l[i] hoi j hj ha
        have h1 := hed e he
        rw [hb] at h1
        simp only [Bool.not_true, Bool.false_or] at h1
        rcases hx with rfl | hx
        · exact h1
        · exact hI.closed e.on j h1 hx hj
      have hlsz : i < listed.size := by rw [hI.sz]; exact hil
      have hclosed' : ∀ x y, (listed.setIfInBounds i true).getD x false = true → isAnc b x y = true → y < l.length → (listed.setIfInBounds i true).getD y false = true := by
        intro x y hx ha hy
        rw [getD_set hlsz] at hx ⊢
        split
        · rfl
        · split at hx
          · rename_i e; subst e; exact hanc y ha hy
          · exact hI.closed x y hx ha hy
      have hopd := rf.op i l[i] hoi
      -- the case of an operation that has been walked and not run
      have pendCase : ∀ (π : List It) (D : List (Nat × Kd)) (pend : List Pe) (ear : List Ee) (ρf : Nat → Value) (Lp : List SProp), InvF w0 A ro P l n ds b Lq ρ0 listed π D pend ear ρf → okOrderF lou b π = true → ObF w0 A ro P l n ds lou K π D Lq ρf Lp → k + 1 = pend.length + (π.filter fun y => !y.isJ).length →
          holds (star A (sl (Lq ++ (Lp ++ EL ear)))) w → (∃ p ∈ pend, p.1 = i) → wpOpIn (WF ro) 0 P l.toArray Q i (wpAnyIn (WF ro) 0 P .any l.toArray Q k (listed.setIfInBounds i true)) (act n (curF l ρ0 pend ear ρf) ds) w := by
        rintro π D pend ear ρf Lp hI ho hob hk hh ⟨p, hp, hpi⟩
        obtain ⟨hst, hlk⟩ := hI.pq p hp l[i] (by rw [hpi]; exact hoi)
        have hearn : ∀ t ∈ (l[i]).looksAt l.toArray, earV l ear t = none := fun t ht => earV_none fun e he hed2 => by
          obtain ⟨h1, h2, h3, _⟩ := hI.inE e he
          rcases rf.look i l[i] hoi t ht e.1 h1 hed2 with h4 | h4 | h4
          · have := hI.pa p hp _ h3
            simp only [It.ix] at this
            rw [hpi, h4] at this; cases this
          · rw [← h4, hnl] at h2; cases h2
          · have := hI.closed e.1 i h2 h4 hil
            rw [hnl] at this; cases this
        have hcl : ∀ t ∈ (l[i]).looksAt l.toArray, curF l ρ0 pend ear ρf t = p.2.1 t := by
          intro t ht
          unfold curF
          rw [hearn t ht]
          simp only
          cases hany : pend.any (fun p => dstAt l p.1 == some t) with
          | true =>
            rw [cond_true]
            rw [List.any_eq_true] at hany
            obtain ⟨q, hq, hqd⟩ := hany
            have hqd : dstAt l q.1 = some t := by simpa using hqd
            refine ((hlk t ht).2 fun j hj ha e => ?_).symm
            have : j = q.1 := rf.dne j q.1 t hj (hI.inP q hq).1 e hqd
            rw [hpi] at ha
            rw [this] at ha
            have := hanc q.1 ha (hI.inP q hq).1
            rw [(hI.inP q hq).2] at this; cases this
          | false =>
            rw [cond_false]
            by_cases hex : ∃ j, j < l.length ∧ isAnc b p.1 j = true ∧ dstAt l j = some t
            · exact ((hlk t ht).1 hex).symm
            · have hno : ∀ j, j < l.length → isAnc b p.1 j = true → dstAt l j ≠ some t := fun j hj ha e => hex ⟨j, hj, ha, e⟩
              rw [(hlk t ht).2 hno]
              refine hI.base t fun j hj hjn e => ?_
              have hjp : ∀ q ∈ pend, q.1 ≠ j := fun q hq e2 => by
                have : pend.any (fun p => dstAt l p.1 == some t) = true := by
                  rw [List.any_eq_true]
                  exact ⟨q, hq, by rw [e2, e]; simp⟩
                rw [hany] at this; cases this
              rcases rf.look i l[i] hoi t ht j hj e with h1 | h1 | h1
              · exact hno j hj (by rw [hpi]; exact h1) e
              · exact hjp p hp (by rw [hpi, h1])
              · rcases hI.all j hj with h2 | ⟨q, hq, e2⟩ | ⟨y, hy, _, h2⟩
                · have := hI.closed j i h2 h1 hil
                  rw [hnl] at this; cases this
                · exact hjp q hq e2
                · exact hjn y hy h2
        obtain ⟨pa, pb, hpp⟩ := List.append_of_mem hp
        have hnP := hI.nP
        rw [hpp, List.map_append, List.map_cons] at hnP
        have hsplit := List.nodup_append.1 hnP
        have hne : ∀ q ∈ pa ++ pb, q.1 ≠ i := by
          intro q hq e
          rcases List.mem_append.1 hq with hq | hq
          · exact hsplit.2.2 q.1 (List.mem_map.2 ⟨q, hq, rfl⟩) p.1 List.mem_cons_self (by rw [e, hpi])
          · exact (List.nodup_cons.1 hsplit.2.1).1 (by rw [hpi, ← e]; exact List.mem_map.2 ⟨q, hq, rfl⟩)
        have hmem : ∀ q, q ∈ pa ++ pb → q ∈ pend := fun q hq => by
          rw [hpp]
          rcases List.mem_append.1 hq with hq | hq
          · exact List.mem_append_left _ hq
          · exact List.mem_append_right _ (List.mem_cons_of_mem _ hq)
        have hmem' : ∀ q, q ∈ pend → q = p ∨ q ∈ pa ++ pb := fun q hq => by
          rw [hpp] at hq
          rcases List.mem_append.1 hq with hq | hq
          · exact .inr (List.mem_append_left _ hq)
          · rcases List.mem_cons.1 hq with hq | hq
            · exact .inl hq
            · exact .inr (List.mem_append_right _ hq)
        have hanyd : ∀ t, (l[i]).dst ≠ some t → pend.any (fun p => dstAt l p.1 == some t) = (pa ++ pb).any (fun p => dstAt l p.1 == some t) := fun t e => by
          have hpd : (dstAt l p.1 == some t) = false := by rw [hpi, dstAt_of hoi]; simpa using e
          rw [hpp]
          simp [hpd]
        have hanyn : ∀ t, (l[i]).dst = some t → (pa ++ pb).any (fun p => dstAt l p.1 == some t) = false := fun t e => by
          rw [List.any_eq_false]
          intro q hq
          simp only [beq_iff_eq]
          intro e2
          exact hne q hq (rf.dne q.1 i t (hI.inP q (hmem q hq)).1 hil e2 (by rw [dstAt_of hoi]; exact e))
        have hearn' : ∀ t, (l[i]).dst = some t → ∀ e ∈ ear, dstAt l e.1 ≠ some t := fun t e e' he' e2 => by
          obtain ⟨h1, h2, _, _⟩ := hI.inE e' he'
          have := rf.dne e'.1 i t h1 hil e2 (by rw [dstAt_of hoi]; exact e)
          rw [this, hnl] at h2; cases h2
        have keepπ : ∀ y ∈ π, y.isJ = false → y.ix < l.length ∧ (listed.setIfInBounds i true).getD y.ix false = false ∧ ∀ q ∈ pa ++ pb, q.1 ≠ y.ix := by
          intro y hy hj
          obtain ⟨h1, h2, h3⟩ := hI.inπ y hy hj
          have hji : y.ix ≠ i := fun e => h3 p hp (by rw [hpi, e])
          exact ⟨h1, by rw [getD_set hlsz, if_neg hji]; exact h2, fun q hq => h3 q (hmem q hq)⟩
        have keepP : ∀ q ∈ pa ++ pb, q.1 < l.length ∧ (listed.setIfInBounds i true).getD q.1 false = false := by
          intro q hq
          obtain ⟨h1, h2⟩ := hI.inP q (hmem q hq)
          exact ⟨h1, by rw [getD_set hlsz, if_neg (hne q hq)]; exact h2⟩
        have keepL : ∀ j, listed.getD j false = true → (listed.setIfInBounds i true).getD j false = true := fun j hj => by
          rw [getD_set hlsz]; split <;> simp_all
        have keepAll : ∀ j, j < l.length → (listed.setIfInBounds i true).getD j false = true ∨ (∃ q ∈ pa ++ pb, q.1 = j) ∨ ∃ x ∈ π, x.isJ = false ∧ x.ix = j := by
          intro j hj
          by_cases e : j = i
          · left; rw [getD_set hlsz, if_pos e]
          · rcases hI.all j hj with h1 | ⟨q, hq, e2⟩ | h1
            · exact .inl (keepL j h1)
            · rcases hmem' q hq with rfl | hq'
              · exact absurd (e2.symm.trans hpi) e
              · exact .inr (.inl ⟨q, hq', e2⟩)
            · exact .inr (.inr h1)
        have keepN : ((pa ++ pb).map (·.1)).Nodup := by
          rw [List.map_append, List.nodup_append]
          exact ⟨hsplit.1, (List.nodup_cons.1 hsplit.2.1).2, fun x hx y hy => hsplit.2.2 x hx y (List.mem_cons_of_mem _ hy)⟩
        have hlen : k = (pa ++ pb).length + (π.filter fun y => !y.isJ).length := by rw [hpp] at hk; simp at hk ⊢; omega
        cases hkd : p.2.2 with
        | inl v0 =>
          rw [hkd] at hst
          have hrun := (hst.1 (Lp ++ EL ear)).run (ρ' := curF l ρ0 pend ear ρf) (by intro c e; rw [e] at hopd; cases hopd) (by intro cs bb e; rw [e] at hopd; cases hopd) (rf.dlt i l[i] hoi) hcl hw hh
            (next := wpAnyIn (WF ro) 0 P .any l.toArray Q k (listed.setIfInBounds i true)) (Q := Q) (fun v u M w' hr hvu hw' hh' => ?_)
          · unfold wpOpIn
            simp only [List.getElem?_toArray, hoi]
            split
            · rename_i hwant; rw [if_pos hwant] at hrun; exact hrun
            · rename_i hwant; rw [if_neg hwant] at hrun; exact ⟨fun _ _ => trivial, hrun⟩
          · obtain ⟨rfl, rfl⟩ := hr
            have hcur : updo (curF l ρ0 pend ear ρf) (l[i]).dst v = curF l ρ0 (pa ++ pb) ear ρf := by
              funext t
              by_cases e : (l[i]).dst = some t
              · rw [e]
                simp only [updo, upd_same, curF, hanyn t e, earV_none (hearn' t e), cond_false]
                rw [hvu t e]
                exact (hst.2 t e).symm
              · rw [updo_ne e]
                unfold curF
                rw [hanyd t e]
            rw [hcur]
            refine ih Lq (listed.setIfInBounds i true) π D (pa ++ pb) ear ρf Lp w' ?_ ho hob hlen hw' hh'
            refine ⟨by simpa using hI.sz, keepπ, keepP, ?_, keepAll, keepN, hI.nE, hclosed', hI.base, fun q hq => hI.pa q (hmem q hq), fun q hq => hI.pq q (hmem q hq), ?_⟩
            · intro e he
              obtain ⟨h1, h2, h3⟩ := hI.inE e he
              exact ⟨h1, keepL _ h2, h3⟩
            · intro q hq
              rcases hI.dl q hq with ⟨p', hp', h1, h2⟩ | h1
              · rcases hmem' p' hp' with rfl | hp''
                · rw [hkd] at h2; cases h2
                · exact .inl ⟨p', hp'', h1, h2⟩
              · exact .inr h1
        | inr R =>
          rw [hkd] at hst
          have hrun := (hst.1 (Lp ++ EL ear)).run (ρ' := curF l ρ0 pend ear ρf) (by intro c e; rw [e] at hopd; cases hopd) (by intro cs bb e; rw [e] at hopd; cases hopd) (rf.dlt i l[i] hoi) hcl hw hh
            (next := wpAnyIn (WF ro) 0 P .any l.toArray Q k (listed.setIfInBounds i true)) (Q := Q) (fun v u M w' hr hvu hw' hh' => ?_)
          · unfold wpOpIn
            simp only [List.getElem?_toArray, hoi]
            split
            · rename_i hwant; rw [if_pos hwant] at hrun; exact hrun
            · rename_i hwant; rw [if_neg hwant] at hrun; exact ⟨fun _ _ => trivial, hrun⟩
          · obtain ⟨M', hM, hR⟩ := hr
            have hcur : updo (curF l ρ0 pend ear ρf) (l[i]).dst v = curF l ρ0 (pa ++ pb) ((i, u, M', R) :: ear) ρf := by
              funext t
              by_cases e : (l[i]).dst = some t
              · rw [e]
                have : earV l ((i, u, M', R) :: ear) t = some u := earV_head (e := (i, u, M', R)) (by rw [dstAt_of hoi]; exact e)
                simp only [updo, upd_same, curF, this]
                exact hvu t e
              · rw [updo_ne e]
                unfold curF
                rw [hanyd t e, earV_cons (e := (i, u, M', R)) (by rw [dstAt_of hoi]; exact e)]
            rw [hcur]
            refine ih Lq (listed.setIfInBounds i true) π D (pa ++ pb) ((i, u, M', R) :: ear) ρf Lp w' ?_ ho hob hlen hw' ?_
            · refine ⟨by simpa using hI.sz, keepπ, keepP, ?_, keepAll, keepN, ?_, hclosed', hI.base, fun q hq => hI.pa q (hmem q hq), fun q hq => hI.pq q (hmem q hq), ?_⟩
              · intro e he
                rcases List.mem_cons.1 he with rfl | he
                · exact ⟨hil, by rw [getD_set hlsz, if_pos rfl], by have := hst.2; rwa [hpi] at this, hR⟩
                · obtain ⟨h1, h2, h3⟩ := hI.inE e he
                  exact ⟨h1, keepL _ h2, h3⟩
              · rw [List.map_cons, List.nodup_cons]
                refine ⟨fun hm => ?_, hI.nE⟩
                obtain ⟨e, he, h1⟩ := List.mem_map.1 hm
                have h2 := (hI.inE e he).2.1
                have h1 : e.1 = i := h1
                rw [h1, hnl] at h2; cases h2
              · intro q hq
                rcases hI.dl q hq with ⟨p', hp', h1, h2⟩ | ⟨e, he, h1⟩ | h1
                · rcases hmem' p' hp' with rfl | hp''
                  · rw [hkd] at h2
                    exact .inr (.inl ⟨_, List.mem_cons_self, by show i = q.1; rw [← h1, hpi], by show R = q.2; exact Sum.inr.inj h2⟩)
                  · exact .inl ⟨p', hp'', h1, h2⟩
                · exact .inr (.inl ⟨e, List.mem_cons_of_mem _ he, h1⟩)
                · exact .inr (.inr h1)
            · refine (hh'.ent ((Ent.refl A).star hM)).ent ((Ent.refl A).star (sl_perm ?_))
              show (Lq ++ ((Lp ++ EL ear) ++ M')).Perm (Lq ++ (Lp ++ (M' ++ EL ear)))
              refine List.Perm.append_left _ ?_
              rw [List.append_assoc]
              exact List.Perm.append_left _ List.perm_append_comm
      rcases hI.all i hil with h1 | h1 | h1
      · rw [hnl] at h1; cases h1
      · exact pendCase π D pend ear ρf Lp hI ho hob (by omega) hh h1
      · obtain ⟨πa, x0, πb, hπ, hx0, hxi⟩ := nonJ_split h1
        subst hπ
        obtain ⟨D', pend', ear', ρf', Lp', hI', ho', hob', hcur, hlen, hperm⟩ := InvF.pops rf hx0 πa hI ho (by rw [hxi]; exact hanc) hob
        rw [← hcur]
        replace hh := hh.ent ((Ent.refl A).star (sl_perm (hperm.append_left Lq)))
        have hk' : k + 1 = pend'.length + ((x0 :: πb).filter fun y => !y.isJ).length := by
          rw [hlen]
          simp only [List.filter_append, List.length_append] at hk
          omega
        cases x0 with
        | join j => cases hx0
        | dec j =>
          have hji : j = i := hxi
          subst hji
          have hob2 := hob'
          simp only [ObF, hoi] at hob2
          obtain ⟨R, hst, hrest⟩ := hob2
          have hj : It.join j ∈ πb := by
            have h1 := ho'
            simp only [okOrderF, Bool.and_eq_true, List.any_eq_true] at h1
            obtain ⟨y, hy, hy1, hy2⟩ := h1.1.1.1
            cases y with
            | op i => cases hy1
            | dec i => cases hy1
            | join i =>
              have : i = j := by simpa [It.ix] using hy2
              subst this; exact hy
          obtain ⟨hI2, hc2⟩ := InvF.push (x := .dec j) (kd := .inr R) (ρf' := ρf') rf hI' ho' rfl hoi (fun _ _ => rfl) ⟨hst, hj, rfl⟩ rfl
          rw [← hc2]
          exact pendCase πb _ _ _ _ Lp' hI2 (okF_tail ho') hrest (by simp [It.isJ] at hk' ⊢; omega) hh ⟨_, List.mem_cons_self, rfl⟩
        | op j =>
          have hji : j = i := hxi
          subst hji
          have hne : ∀ y ∈ πb, y.ix ≠ j := fun y hy => by
            have h1 := ho'
            simp only [okOrderF, Bool.and_eq_true, List.all_eq_true] at h1
            simpa using h1.1.2 y hy
          cases hl : lou.contains j with
          | false =>
            have hob2 := hob'
            simp only [ObF, hoi, hl] at hob2
            obtain ⟨v, hst, hrest⟩ := hob2
            obtain ⟨hI2, hc2⟩ := InvF.push (x := .op j) (kd := .inl v) (ρf' := updo ρf' (l[j]).dst v) rf hI' ho' rfl hoi (fun t ht => updo_ne (by rw [← dstAt_of hoi]; exact ht)) ⟨hst, fun d hd => by rw [hd]; simp [updo, upd_same], hne⟩ rfl
            rw [← hc2]
            exact pendCase πb _ _ _ _ Lp' hI2 (okF_tail ho') hrest (by simp [It.isJ] at hk' ⊢; omega) hh ⟨_, List.mem_cons_self, rfl⟩
          | true =>
            simp only [ObF, hoi, hl, if_true] at hob'
            have hancs := okF_anc ho' rfl
            obtain ⟨hπl, hπn, hπp⟩ := hI'.inπ (.op j) List.mem_cons_self rfl
            simp only [It.ix] at hπl hπn hπp hancs
            have hcl : ∀ t ∈ (l[j]).looksAt l.toArray, curF l ρ0 pend' ear' ρf' t = ρf' t := by
              intro t ht
              unfold curF
              have hen : earV l ear' t = none := earV_none fun e he hed2 => by
                obtain ⟨h1, h2, h3, _⟩ := hI'.inE e he
                rcases rf.look j l[j] hoi t ht e.1 h1 hed2 with h4 | h4 | h4
                · rcases List.mem_cons.1 h3 with h5 | h5
                  · cases h5
                  · have := hancs _ h5
                    simp only [It.ix] at this
                    rw [h4] at this; cases this
                · rw [← h4, hnl] at h2; cases h2
                · have := hI'.closed e.1 j h2 h4 hil
                  rw [hnl] at this; cases this
              have hno : pend'.any (fun p => dstAt l p.1 == some t) = false := by
               rw [List.any_eq_false]
               intro q hq
               simp only [beq_iff_eq]
               intro hqd
               have hql := (hI'.inP q hq).1
               rcases rf.look j l[j] hoi t ht q.1 hql hqd with h2 | h2 | h2
               · have := hanc q.1 h2 hql
                 rw [(hI'.inP q hq).2] at this; cases this
               · exact hπp q hq h2.symm
               · have := hI'.pa q hq (.op j) List.mem_cons_self
                 simp only [It.ix] at this
                 rw [this] at h2; cases h2
              rw [hen, hno]
              rfl
            have hh1 : holds (star (star A (sl (EL ear'))) (sl (Lq ++ Lp'))) w := by
              refine hh.ent ?_
              refine ((Ent.refl A).star ((sl_perm (show (Lq ++ (Lp' ++ EL ear')).Perm (EL ear' ++ (Lq ++ Lp')) from ?_)).trans (sl_append_to _ _))).trans (Ent.assoc' _ _ _)
              rw [← List.append_assoc]
              exact List.perm_append_comm
            have hrun := (hob' (sl (EL ear'))).run (ρ' := curF l ρ0 pend' ear' ρf') (by intro c e; rw [e] at hopd; cases hopd) (by intro cs bb e; rw [e] at hopd; cases hopd) (rf.dlt j l[j] hoi) hcl hw hh1
              (next := wpAnyIn (WF ro) 0 P .any l.toArray Q k (listed.setIfInBounds j true)) (Q := Q) (fun v u M w' hr hvu hw' hh' => ?_)
            · unfold wpOpIn
              simp only [List.getElem?_toArray, hoi]
              split
              · rename_i hwant; rw [if_pos hwant] at hrun; exact hrun
              · rename_i hwant; rw [if_neg hwant] at hrun; exact ⟨fun _ _ => trivial, hrun⟩
            · obtain ⟨Lq2, Lp2, he, hsy, hob2⟩ := hr
              have hp0 : Lq2 = Lq ∨ pend' = [] := hsy.imp id fun hs => by
                cases hpd : pend' with
                | nil => rfl
                | cons q rest =>
                  exfalso
                  have hq : q ∈ pend' := by rw [hpd]; exact List.mem_cons_self
                  obtain ⟨hql, hqn⟩ := hI'.inP q hq
                  rw [← hbm] at hs
                  simp only [okSyncF, List.all_eq_true, List.mem_range, Bool.or_eq_true, beq_iff_eq, List.any_eq_true, Bool.and_eq_true] at hs
                  rcases hs q.1 hql with ⟨y, hy, h1, h2⟩ | h2 | h2
                  · exact (hI'.inπ y (List.mem_cons_of_mem _ hy) (by simpa using h1)).2.2 q hq h2.symm
                  · exact hπp q hq h2
                  · rw [hanc q.1 h2 hql] at hqn; cases hqn
              have hh2 : holds (star A (sl (Lq2 ++ (Lp2 ++ EL ear')))) w' := by
                refine (hh'.ent ((Ent.refl _).star he)).ent ?_
                refine (Ent.assoc _ _ _).trans ((Ent.refl A).star ((sl_append_of _ _).trans (sl_perm (show (EL ear' ++ (Lq2 ++ Lp2)).Perm (Lq2 ++ (Lp2 ++ EL ear')) from ?_))))
                exact List.perm_append_comm.trans (by rw [List.append_assoc])
              have hnd : ∀ q ∈ pend', ∀ t, (l[j]).dst = some t → dstAt l q.1 ≠ some t := fun q hq t e e2 =>
                hπp q hq (rf.dne q.1 j t (hI'.inP q hq).1 hil e2 (by rw [dstAt_of hoi]; exact e))
              have hnde : ∀ t, (l[j]).dst = some t → ∀ e ∈ ear', dstAt l e.1 ≠ some t := fun t e e' he' e2 => by
                obtain ⟨h1, h2, _, _⟩ := hI'.inE e' he'
                have := rf.dne e'.1 j t h1 hil e2 (by rw [dstAt_of hoi]; exact e)
                rw [this, hnl] at h2; cases h2
              have hcur2 : updo (curF l ρ0 pend' ear' ρf') (l[j]).dst v = curF l ρ0 pend' ear' (updo ρf' (l[j]).dst u) := by
                funext t
                by_cases e : (l[j]).dst = some t
                · have h2 : pend'.any (fun p => dstAt l p.1 == some t) = false := by
                    rw [List.any_eq_false]
                    intro q hq
                    simp only [beq_iff_eq]
                    exact hnd q hq t e
                  rw [e]
                  simp only [updo, upd_same, curF, h2, earV_none (hnde t e), cond_false]
                  rw [hvu t e]
                · rw [updo_ne e]
                  unfold curF
                  rw [updo_ne e]
              rw [hcur2]
              refine ih Lq2 (listed.setIfInBounds j true) πb D' pend' ear' _ Lp2 w' ?_ (okF_tail ho') hob2 (by simp [It.isJ] at hk' ⊢; omega) hw' hh2
              refine ⟨by simpa using hI'.sz, ?_, ?_, ?_, ?_, hI'.nP, hI'.nE, hclosed', ?_, ?_, ?_, ?_⟩
              · intro y hy hyj
                obtain ⟨h2, h3, h4⟩ := hI'.inπ y (List.mem_cons_of_mem _ hy) hyj
                exact ⟨h2, by rw [getD_set hlsz, if_neg (hne y hy)]; exact h3, h4⟩
              · intro q hq
                obtain ⟨h2, h3⟩ := hI'.inP q hq
                exact ⟨h2, by rw [getD_set hlsz, if_neg (hπp q hq)]; exact h3⟩
              · intro e he2
                obtain ⟨h1, h2, h3, h4⟩ := hI'.inE e he2
                refine ⟨h1, by rw [getD_set hlsz]; split <;> simp_all, ?_, h4⟩
                rcases List.mem_cons.1 h3 with h5 | h5
                · cases h5
                · exact h5
              · intro i' hi'
                rw [getD_set hlsz]
                by_cases e : i' = j
                · left; rw [if_pos e]
                · rw [if_neg e]
                  rcases hI'.all i' hi' with h2 | h2 | ⟨y, hy, h2, h3⟩
                  · exact .inl h2
                  · exact .inr (.inl h2)
                  · rcases List.mem_cons.1 hy with rfl | hy
                    · exact absurd h3.symm e
                    · exact .inr (.inr ⟨y, hy, h2, h3⟩)
              · intro t ht
                rw [updo_ne (by rw [← dstAt_of hoi]; exact ht j hil hne)]
                exact hI'.base t fun i' hi' hjn => ht i' hi' fun y hy => hjn y (List.mem_cons_of_mem _ hy)
              · intro q hq y hy
                exact hI'.pa q hq y (List.mem_cons_of_mem _ hy)
              · intro q hq o' ho2
                rcases hp0 with hp0 | hp0
                case inr => rw [hp0] at hq; cases hq
                subst hp0
                obtain ⟨h2, h4⟩ := hI'.pq q hq o' ho2
                refine ⟨?_, fun t ht => ⟨?_, (h4 t ht).2⟩⟩
                · cases hkq : q.2.2 with
                  | inl v1 =>
                    rw [hkq] at h2
                    refine ⟨h2.1, fun d hd => ?_⟩
                    rw [updo_ne]
                    · exact h2.2 d hd
                    · intro e; exact hnd q hq d e (by rw [dstAt_of ho2]; exact hd)
                  | inr R1 =>
                    rw [hkq] at h2
                    refine ⟨h2.1, ?_⟩
                    rcases List.mem_cons.1 h2.2 with h5 | h5
                    · cases h5
                    · exact h5
                · rintro ⟨i', hi', ha, hd⟩
                  rw [(h4 t ht).1 ⟨i', hi', ha, hd⟩]
                  refine (updo_ne fun e => ?_).symm
                  have : i' = j := rf.dne i' j t hi' hil hd (by rw [dstAt_of hoi]; exact e)
                  subst this
                  have := hI'.pa q hq (.op i') List.mem_cons_self
                  simp only [It.ix] at this
                  rw [this] at ha; cases ha
              · intro q hq
                rcases hI'.dl q hq with h2 | h2 | h2
                · exact .inl h2
                · exact .inr (.inl h2)
                · exact .inr (.inr fun y hy => h2 y (List.mem_cons_of_mem _ hy))

/-- **A region that draws its order, with operations that float.** -/
theorem g_drawF {L : List SProp} {Q : Exit → Act → World → Prop} {ρ : Nat → Value} {id : Nat} {l : List Oper} (lou : List Nat) (π : List It) (Lq : List SProp) {Lp : List SProp} (hm : P.follows .mixedOrders = true)
    (hok : (okRegion l n (masks l []) && okOrderF lou (masks l []) π && okPermF l.length π) = true) [tk : Take L Lq Lp]
    (h : ObF w0 A ro P l n ds lou (fun ρ' L' => G w0 A L' (fun w => Q .normal (act n ρ' ds) w)) π [] Lq ρ Lp) :
    G w0 A L (fun w => (Code.region id l.toArray true).wpIn (WF ro) 0 P Q (act n ρ ds) w) := by
  simp only [Bool.and_eq_true] at hok
  obtain ⟨⟨h1, h2⟩, h3⟩ := hok
  refine G.perm tk.perm fun w hw hh => ?_
  refine wpIn_region_any hm ?_
  simp only [okPermF, Bool.and_eq_true, beq_iff_eq, List.all_eq_true, List.mem_range, List.any_eq_true] at h3
  obtain ⟨⟨hlen, hall⟩, hlt⟩ := h3
  have hrep : ∀ j, (Array.replicate l.toArray.size false).getD j false = false := fun j => by
    simp only [Array.getD_eq_getD_getElem?, Array.getElem?_replicate]
    split <;> rfl
  have := draw_soundF (ro := ro) (P := P) (ρ0 := ρ) (RegFacts.of h1) rfl (Q := Q) (fun _ _ x => x) l.toArray.size Lq (Array.replicate l.toArray.size false) π [] [] [] ρ Lp w.drew ?_ h2 h (by simp [hlen]) (hw.trans (.drew w)) ((hh.le (Le.refl _)).ent (by simp only [EL, List.flatMap_nil, List.append_nil]; exact Ent.refl _))
  · have e : curF l ρ [] [] ρ = ρ := by funext t; simp [curF, earV]
    rw [e] at this
    exact this
  · refine ⟨by simp, ?_, by simp, by simp, ?_, by simp, by simp, ?_, ?_, by simp, by simp, by simp⟩
    · intro x hx _
      have := hlt x hx
      rw [Nat.blt_eq] at this
      exact ⟨this, hrep _, by simp⟩
    · intro j hj
      obtain ⟨x, hx, h4, h5⟩ := hall j hj
      exact .inr (.inr ⟨x, hx, by simpa using h4, h5⟩)
    · intro i j hi
      rw [hrep i] at hi; cases hi
    · intro t _
      rfl

variable {Lq : List SProp} {i : Nat} {π : List It} {D : List (Nat × Kd)} {ρ : Nat → Value} {Lp : List SProp} {o : Oper}
theorem obf_nil (h : K ρ (Lq ++ Lp)) : ObF w0 A ro P l n ds lou K [] D Lq ρ Lp := h
theorem obf_q (hi : l[i]? = some o) (hl : lou.contains i = false) (h : ∃ v, (∀ X, OStep w0 A ro P l.toArray n ds ρ (Lq ++ X) o (fun u M => u = v ∧ M = Lq ++ X)) ∧ ObF w0 A ro P l n ds lou K π D Lq (updo ρ o.dst v) Lp) :
    ObF w0 A ro P l n ds lou K (.op i :: π) D Lq ρ Lp := by
  simp only [ObF, hi, hl]
  exact h
theorem obf_l (hi : l[i]? = some o) (hl : lou.contains i = true) (h : ∀ X, OStep w0 (star A X) ro P l.toArray n ds ρ (Lq ++ Lp) o (fun v M => ∃ Lp', Ent (sl M) (sl (Lq ++ Lp')) ∧ ObF w0 A ro P l n ds lou K π D Lq (updo ρ o.dst v) Lp')) :
    ObF w0 A ro P l n ds lou K (.op i :: π) D Lq ρ Lp := by
  simp only [ObF, hi, hl, if_true]
  exact fun X Q hn => h X Q fun v M ⟨Lp', h1, h2⟩ => hn v M ⟨Lq, Lp', h1, .inl rfl, h2⟩
theorem obf_s (Lq' : List SProp) (hi : l[i]? = some o) (hl : lou.contains i = true) (hs : okSyncF (masks l []) l.length i π = true)
    (h : ∀ X, OStep w0 (star A X) ro P l.toArray n ds ρ (Lq ++ Lp) o (fun v M => ∃ Lp', Ent (sl M) (sl (Lq' ++ Lp')) ∧ ObF w0 A ro P l n ds lou K π D Lq' (updo ρ o.dst v) Lp')) :
    ObF w0 A ro P l n ds lou K (.op i :: π) D Lq ρ Lp := by
  simp only [ObF, hi, hl, if_true]
  exact fun X Q hn => h X Q fun v M ⟨Lp', h1, h2⟩ => hn v M ⟨Lq', Lp', h1, .inr hs, h2⟩
/-- A floating operation is told: what is said of what it makes. -/
theorem obf_d (R : Kd) (hi : l[i]? = some o) (h : ∀ X, OStep w0 A ro P l.toArray n ds ρ (Lq ++ X) o (fun v M => ∃ M', Ent (sl M) (sl (Lq ++ (X ++ M'))) ∧ R v M')) (k : ObF w0 A ro P l n ds lou K π ((i, R) :: D) Lq ρ Lp) :
    ObF w0 A ro P l n ds lou K (.dec i :: π) D Lq ρ Lp := by
  simp only [ObF, hi]
  exact ⟨R, h, k⟩
theorem obf_j {R : Kd} (hi : l[i]? = some o) (hR : (i, R) ∈ D) (h : ∀ v M, R v M → ObF w0 A ro P l n ds lou K π D Lq (updo ρ o.dst v) (M ++ Lp)) : ObF w0 A ro P l n ds lou K (.join i :: π) D Lq ρ Lp := by
  simp only [ObF, hi]
  exact ⟨R, hR, h⟩
end
end Go.Sl
/- Literals that stay, and other short cuts. Plain library, no program in sight. -/
namespace Go.Sl
open Go Go.Proofs Go.RowKit

section
variable {w0 : World} {A : SProp} {L : List SProp} {ro : Option Nat} {P : Program} {Q : Exit → Act → World → Prop} {all : Array Oper} {os : List Oper} {n : Nat} {ρ : Nat → Value} {ds : List Nat}
variable {d : Option Tmp} {ty : TypeId} {pos : String} {af : Array Edge} {x y : Operand}
variable {α : Type} {enc : α → List Value} {sz : Nat} {xs : List α} {S : Option Addr}
/-- A truth value moved: both ways are walked. -/
theorem o_moveB {x : Operand} {b : Bool} (hx : ev n ρ x = .bool b) (h1 : b = true → G w0 A L (fun w => runL ro P all Q os (act n (updo ρ d (.bool true)) ds) w)) (h0 : b = false → G w0 A L (fun w => runL ro P all Q os (act n (updo ρ d (.bool false)) ds) w)) :
    G w0 A L (fun w => runL ro P all Q ({ dst := d, op := .move x, type := ty, pos := pos, after := af, guard := none } :: os) (act n ρ ds) w) :=
  o_move (by
    rw [hx]
    cases b with
    | true => exact h1 rfl
    | false => exact h0 rfl)
theorem o_slen {t : TypeId} {tys : Array TypeId} {s : ByteArray} (hx : ev n ρ x = .string s) (ht : tys = #[t]) (hu : P.underlying t = some .string)
    (h : G w0 A L (fun w => runL ro P all Q os (act n (updo ρ d (.int .i64 (s.size : Int))) ds) w)) :
    G w0 A L (fun w => runL ro P all Q ({ dst := d, op := .call { callee := .builtin .len, args := #[x], argTypes := tys }, type := ty, pos := pos, after := af, guard := none } :: os) (act n ρ ds) w) :=
  o_val rfl (by intro c e; cases e) (fun w _ _ => by
    subst ht
    simp only [execOp, resolve, List.map_toArray, List.map_cons, List.map_nil, hx]
    simp [invoke, builtin, Builtin.len_, run_underlying hu, goInt]) h
/-- A text's byte. -/
def byteN (s : ByteArray) (i : Nat) : Nat := if h : i < s.size then (s[i]'h).toNat else 0
theorem o_sindex {t : TypeId} {s : ByteArray} {kd : IntKind} {m : Int} {i : Nat} (hx : ev n ρ x = .string s) (hy : ev n ρ y = .int kd m) (hm : m = (i : Int)) (hi : i < s.size) (hu : P.underlying t = some .string)
    (h : G w0 A L (fun w => runL ro P all Q os (act n (updo ρ d (.int .u8 (byteN s i : Int))) ds) w)) :
    G w0 A L (fun w => runL ro P all Q ({ dst := d, op := .index t x y, type := ty, pos := pos, after := af, guard := none } :: os) (act n ρ ds) w) :=
  o_val rfl (by intro c e; cases e) (fun w _ _ => by
    subst hm
    simp only [execOp]
    refine run_v ?_
    rw [hx, hy, run_index_string w t s kd _ hu, dif_pos ⟨by omega, by omega⟩]
    simp [byteN, hi]) h
/-- A literal that stays as it is. -/
theorem o_litP {t e : TypeId} {len : Nat} {parts : Array (Nat × Operand)} (enc : α → List Value) (xs : List α) (cs : Array Value) (hr : ∀ w, (Instr.buildSlice t len (parts.map fun (i, x) => (i, ev n ρ x))).run P w = .ok (.slice (some ⟨w.heap.size, 0, none⟩) len len) (w.alloc (.cells cs e)))
    [en : EncLen enc sz] (hcs : cs.toList = xs.flatMap enc) (hm : xs.length ≤ maxLen)
    (h : ∀ b, G w0 A (psl enc sz (some ⟨b, 0, none⟩) xs :: L) (fun w => runL ro P all Q os (act n (updo ρ d (.slice (some ⟨b, 0, none⟩) len len)) ds) w)) :
    G w0 A L (fun w => runL ro P all Q ({ dst := d, op := .buildSlice t len parts, type := ty, pos := pos, after := af, guard := none } :: os) (act n ρ ds) w) :=
  o_slice_lit (e := e) cs hr fun b => G.lit_slice (enc := enc) (sz := sz) xs hcs hm (G.freeze_slice (h b))
/-- A floating literal: what is said of it. -/
theorem fl_lit {t e : TypeId} {len : Nat} {parts : Array (Nat × Operand)} (enc : α → List Value) (xs : List α) (cs : Array Value) (hr : ∀ w, (Instr.buildSlice t len (parts.map fun (i, x) => (i, ev n ρ x))).run P w = .ok (.slice (some ⟨w.heap.size, 0, none⟩) len len) (w.alloc (.cells cs e)))
    [en : EncLen enc sz] (hcs : cs.toList = xs.flatMap enc) (hm : xs.length ≤ maxLen) {Lq : List SProp} (X : List SProp) :
    OStep w0 A ro P all n ds ρ (Lq ++ X) { dst := d, op := .buildSlice t len parts, type := ty, pos := pos, after := af, guard := none }
      (fun v M => ∃ M', Ent (sl M) (sl (Lq ++ (X ++ M'))) ∧ ∃ b, v = .slice (some ⟨b, 0, none⟩) len len ∧ M' = [psl enc sz (some ⟨b, 0, none⟩) xs]) := fun Q h =>
  o_litP enc xs cs hr hcs hm fun b => g_end (h _ _ ⟨[psl enc sz (some ⟨b, 0, none⟩) xs], sl_perm (by
    rw [← List.append_assoc]
    exact List.perm_append_comm (l₁ := [psl enc sz (some ⟨b, 0, none⟩) xs]) (l₂ := Lq ++ X)), b, rfl, rfl⟩)
/-- An owned row, given up, with what is known of its room. -/
theorem G.frzc {e : TypeId} [en : EncLen enc sz] {c : Nat} {Φ : World → Prop} (h : xs.length ≤ c → G w0 A (psl enc sz S xs :: L) Φ) : G w0 A ([osl e enc sz S c xs] ++ L) Φ :=
  fun w hw hh => G.freeze_slice (e := e) (c := c) (h (osl_room (e := e) (hh.ent (Ent.swap _ _ _)))) w hw hh
end
/-- From less a state. -/
theorem Yields.pre {P : Program} {l : Nat} {vs : List Value} {M0 M M' Mx : List SProp} (h : Yields P l vs M M' Mx) (e : Ent (sl M0) (sl M)) : Yields P l vs M0 M' Mx := fun w F hh => h w F (hh.ent ((Ent.refl F).star e))
/-- Told otherwise. -/
theorem Iter.map {P : Program} {gf : FuncId} {lb : List Value} {α β : Type} {enc : α → List Value} {enc2 : β → List Value} (g : α → β) (he : ∀ x, enc x = enc2 (g x)) {xs : List α} {J0 : List SProp} (h : Iter P gf lb enc xs J0) : Iter P gf lb enc2 (xs.map g) J0 := fun l J Jx hJ hy => by
  refine (h l (fun pre => J (pre.map g)) (fun pre => Jx (pre.map g)) hJ fun pre x hp => ?_).mono fun v L' hR => ?_
  · have := hy (pre.map g) (g x) (by obtain ⟨t, ht⟩ := hp; exact ⟨t.map g, by rw [← ht]; simp⟩)
    rw [he]
    simpa using this
  · rcases hR with h1 | ⟨pre, ⟨t, ht⟩, h1⟩
    · exact .inl h1
    · exact .inr ⟨pre.map g, ⟨t.map g, by rw [← ht]; simp⟩, h1⟩
end Go.Sl
/- Things told one by one, as values; a list that grows in a variable. -/
namespace Go.Proofs.Yteokgobeafnpoaa
open Go Go.Sl
attribute [local irreducible] Code.wpIn roundPost bodyPostM runL Ret Meets Begin

def valI (x : Int) : Value := .int .i64 x
def encVI (x : Int) : List Value := [valI x]
/-- A list that grows, in a variable. -/
def GrowI (p : Nat) (pre : List Int) : SProp := ex fun r : Option Addr × Nat => sl [cellsB p #[.slice r.1 pre.length r.2] 23, osl 3 encI 1 r.1 r.2 pre]
section
variable {w0 : World} {A : SProp} {L M : List SProp} {Φ : World → Prop}
theorem openGI (p : Nat) (pre : List Int) [tk : Take1 L (GrowI p pre) M] (h : ∀ S c, G w0 A (cellsB p #[.slice S pre.length c] 23 :: osl 3 encI 1 S c pre :: M) Φ) : G w0 A L Φ :=
  G.perm tk.perm (G.ex fun ⟨S, c⟩ => G.open_sl (h S c))
theorem shutGI (p : Nat) (pre : List Int) (S : Option Addr) (c : Nat) {n : Nat} (hn : pre.length = n) [tk : Take L [cellsB p #[.slice S n c] 23, osl 3 encI 1 S c pre] M] (h : G w0 A (GrowI p pre :: M) Φ) : G w0 A L Φ := by
  subst hn
  exact G.perm tk.perm (G.ent ((sl_append_to _ M).trans (Ent.star (show Ent _ (GrowI p pre) from fun _ _ x => ⟨(S, c), x⟩) (Ent.refl _))) h)
theorem newGI (p : Nat) [tk : Take1 L (cellsB p #[.slice none 0 0] 23) M] (h : G w0 A (GrowI p [] :: M) Φ) : G w0 A L Φ :=
  G.perm tk.perm (G.nil_slice 3 encI 1 (shutGI p [] none 0 rfl (M := M) (tk := ⟨List.Perm.swap _ _ _⟩) h))
end
end Go.Proofs.Yteokgobeafnpoaa
/- Many assertions at once; loops in which loops over functions stand. Plain library, no program in sight. -/
namespace Go.Sl
open Go Go.Proofs

def bigS {α : Type} (ys : List α) (f : α → SProp) : SProp := sl (ys.map f)
theorem bigS_perm {α : Type} {ys zs : List α} (h : ys.Perm zs) (f : α → SProp) : Ent (bigS ys f) (bigS zs f) := sl_perm (h.map f)
theorem bigS_congr {α : Type} {ys : List α} {f g : α → SProp} (h : ∀ y ∈ ys, f y = g y) : bigS ys f = bigS ys g := congrArg sl (List.map_congr_left h)
section
variable {α : Type} {w0 : World} {A : SProp} {L M : List SProp} {Φ : World → Prop}
theorem G.bopen {ys : List α} {f : α → SProp} (y : α) (zs : List α) (hp : ys.Perm (y :: zs)) [tk : Take1 L (bigS ys f) M] (h : G w0 A (f y :: bigS zs f :: M) Φ) : G w0 A L Φ :=
  G.perm tk.perm (G.ent (L := bigS ys f :: M) (L' := f y :: bigS zs f :: M) (((bigS_perm hp f).star (Ent.refl _)).trans (Ent.assoc (f y) (bigS zs f) (sl M))) h)
theorem G.bshut (ys : List α) (f : α → SProp) (y : α) (zs : List α) (hp : (y :: zs).Perm ys) [tk : Take L [f y, bigS zs f] M] (h : G w0 A (bigS ys f :: M) Φ) : G w0 A L Φ :=
  G.perm tk.perm (G.ent (L := f y :: bigS zs f :: M) (L' := bigS ys f :: M) ((Ent.assoc' (f y) (bigS zs f) (sl M)).trans ((bigS_perm hp f).star (Ent.refl _))) h)
theorem G.bnil (f : α → SProp) (h : G w0 A (bigS [] f :: L) Φ) : G w0 A L Φ := G.ent (L := L) (L' := bigS [] f :: L) (Ent.emp_left (sl L)) h
theorem G.beq {ys : List α} {f g : α → SProp} (e : bigS ys f = bigS ys g) [tk : Take1 L (bigS ys f) M] (h : G w0 A (bigS ys g :: M) Φ) : G w0 A L Φ := G.perm tk.perm (by rw [e]; exact h)
end
theorem mem_perm {α : Type} {ys : List α} {y : α} (h : y ∈ ys) : ∃ zs, ys.Perm (y :: zs) := by
  obtain ⟨s, t, rfl⟩ := List.append_of_mem h
  exact ⟨s ++ t, List.perm_middle⟩

section
variable {w0 : World} {F : SProp} {L : List SProp} {Fe : Fence} {m : Nat} {P : Program} {Q : Exit → Act → World → Prop} {a : Act}
/-- As 'Meets', whatever loops over functions came by. -/
def MeetsD {σ : Type} (w0 : World) (F : SProp) (n : Nat) (S : σ → List (Nat × Value)) (H : σ → List SProp) (ok : σ → Prop) (a : Act) (w : World) : Prop :=
  ∃ s ρ ds, ok s ∧ a = act n ρ ds ∧ (∀ p ∈ S s, ρ p.1 = p.2) ∧ Std w0 w ∧ holds (star (star (dfr ds) F) (sl (H s))) w
theorem MeetsD.elim {σ : Type} {n : Nat} {S : σ → List (Nat × Value)} {H : σ → List SProp} {ok : σ → Prop} {w : World} {Φ : Act → World → Prop} (h : MeetsD w0 F n S H ok a w)
    (k : ∀ s ρ ds, ok s → G w0 (star (dfr ds) F) (H s) (fun w => Φ (act n (updl ρ (S s)) ds) w)) : Φ a w := by
  obtain ⟨s, ρ, ds, ho, rfl, hs, hw, hh⟩ := h
  have := k s ρ ds ho w hw hh
  rwa [updl_self hs] at this
theorem g_meetsD {σ : Type} {n : Nat} {ρ : Nat → Value} {ds : List Nat} {S : σ → List (Nat × Value)} {H : σ → List SProp} {ok : σ → Prop} {M : List SProp} (s : σ) (ho : ok s) (hs : ∀ p ∈ S s, ρ p.1 = p.2) [t : Take L (H s) M] :
    G w0 (star (dfr ds) F) L (fun w => MeetsD w0 F n S H ok (act n ρ ds) w) := fun _ hw hh =>
  ⟨s, ρ, ds, ho, rfl, hs, hw, hh.ent ((Ent.refl _).star ((sl_perm t.perm).trans ((sl_append_to _ _).trans (Ent.left _ _))))⟩
theorem g_loopD {σ : Type} {n : Nat} {ρ : Nat → Value} {ds : List Nat} {c : Code} (S : σ → List (Nat × Value)) (H : σ → List SProp) (μ : σ → Nat) (s0 : σ) {M : List SProp}
    (h0 : ∀ p ∈ S s0, ρ p.1 = p.2) [t : Take L (H s0) M]
    (k : ∀ s ρ' ds', G w0 (star (dfr ds') F) (H s) (fun w => c.wpIn Fe m P (Exit.then (MeetsD w0 F n S H (fun s' => μ s' < μ s)) Q) (act n (updl ρ' (S s)) ds') w)) :
    G w0 (star (dfr ds) F) L (fun w => (Code.loop c).wpIn Fe m P Q (act n ρ ds) w) := by
  intro w hw hh
  refine wpIn_loop_by (fun s a w => ∃ ρ ds, a = act n ρ ds ∧ (∀ p ∈ S s, ρ p.1 = p.2) ∧ Std w0 w ∧ holds (star (star (dfr ds) F) (sl (H s))) w) μ s0
    ⟨ρ, ds, rfl, h0, hw, hh.ent ((Ent.refl _).star ((sl_perm t.perm).trans ((sl_append_to _ _).trans (Ent.left _ _))))⟩ ?_
  rintro s a w ⟨ρ, ds, rfl, hs, hw, hh⟩
  have := k s ρ ds w hw hh
  rw [updl_self hs] at this
  refine wpIn_mono this ?_
  intro e a' w' hq
  cases e with
  | normal =>
    obtain ⟨s', ρ', ds', ho, ha, hs', hw', hh'⟩ := hq
    exact ⟨s', ⟨ρ', ds', ha, hs', hw', hh'⟩, ho⟩
  | _ => exact hq
theorem g_cutD {σ : Type} {n : Nat} {ρ : Nat → Value} {ds : List Nat} {x y : Code} (S : σ → List (Nat × Value)) (H : σ → List SProp) (ok : σ → Prop)
    (h : G w0 (star (dfr ds) F) L (fun w => x.wpIn Fe m P (Exit.then (MeetsD w0 F n S H ok) Q) (act n ρ ds) w))
    (k : ∀ s ρ' ds', ok s → G w0 (star (dfr ds') F) (H s) (fun w => y.wpIn Fe m P Q (act n (updl ρ' (S s)) ds') w)) : G w0 (star (dfr ds) F) L (fun w => (Code.seq x y).wpIn Fe m P Q (act n ρ ds) w) := by
  refine h.mono fun _ hw => wpIn_seq (wpIn_mono hw ?_)
  intro e a w' hq
  cases e with
  | normal => exact MeetsD.elim (Φ := fun a w => y.wpIn Fe m P Q a w) hq k
  | _ => exact hq
theorem g_cutkD {σ : Type} {n : Nat} {ρ : Nat → Value} {ds : List Nat} {x : Code} {K : Act → World → Prop} (S : σ → List (Nat × Value)) (H : σ → List SProp) (ok : σ → Prop)
    (h : G w0 (star (dfr ds) F) L (fun w => x.wpIn Fe m P (Exit.then (MeetsD w0 F n S H ok) Q) (act n ρ ds) w))
    (k : ∀ s ρ' ds', ok s → G w0 (star (dfr ds') F) (H s) (fun w => K (act n (updl ρ' (S s)) ds') w)) : G w0 (star (dfr ds) F) L (fun w => x.wpIn Fe m P (Exit.then K Q) (act n ρ ds) w) := by
  refine h.mono fun _ hw => wpIn_mono hw ?_
  intro e a w' hq
  cases e with
  | normal => exact MeetsD.elim (Φ := K) hq k
  | _ => exact hq
/-- A cut behind a block. -/
theorem g_cutbD {σ : Type} {n : Nat} {ρ : Nat → Value} {ds : List Nat} {x : Code} {id : Nat} {K : Act → World → Prop} (T : σ → List (Nat × Value)) (H : σ → List SProp) (ok : σ → Prop)
    (h : G w0 (star (dfr ds) F) L (fun w => x.wpIn Fe m P (Exit.inBlock id (Exit.then (MeetsD w0 F n T H ok) Q)) (act n ρ ds) w))
    (k : ∀ s ρ' ds', ok s → G w0 (star (dfr ds') F) (H s) (fun w => K (act n (updl ρ' (T s)) ds') w)) : G w0 (star (dfr ds) F) L (fun w => x.wpIn Fe m P (Exit.inBlock id (Exit.then K Q)) (act n ρ ds) w) := by
  refine h.mono fun _ hw => wpIn_mono hw ?_
  intro e a w' hq
  cases e with
  | normal => exact MeetsD.elim (Φ := K) hq k
  | exit j =>
    simp only [Exit.inBlock] at hq ⊢
    split at hq
    · rename_i hj; rw [if_pos hj]; exact MeetsD.elim (Φ := K) hq k
    · rename_i hj; rw [if_neg hj]; exact hq
  | _ => exact hq
end
end Go.Sl
/- A continuation hidden: from a point on, only what its ends ask is kept. Plain library, no program in sight. -/
namespace Go.Sl
open Go Go.Proofs

section
variable {w0 : World} {A : SProp} {L : List SProp}
/-- From here on the continuation is a name; what is known of it stands in a hypothesis. -/
theorem g_hide {x : Code} {fe : Fence} {m : Nat} {P : Program} {a : Act} {Q : Exit → Act → World → Prop} (h : ∀ Q' : Exit → Act → World → Prop, (∀ e a w, Q e a w → Q' e a w) → G w0 A L (fun w => x.wpIn fe m P Q' a w)) : G w0 A L (fun w => x.wpIn fe m P Q a w) := h Q fun _ _ _ h => h
theorem g_hideR {ro : Option Nat} {P : Program} {all : Array Oper} {os : List Oper} {a : Act} {Q : Exit → Act → World → Prop} (h : ∀ Q' : Exit → Act → World → Prop, (∀ e a w, Q e a w → Q' e a w) → G w0 A L (fun w => runL ro P all Q' os a w)) : G w0 A L (fun w => runL ro P all Q os a w) := h Q fun _ _ _ h => h
/-- Of the frame only these are kept. (Each move doubles the frame as a tree; what looks through the goal, 'rw', 'generalize', 'obtain', then runs for ever.) -/
theorem g_keep {x : Code} {fe : Fence} {m : Nat} {P : Program} {n : Nat} {ρ : Nat → Value} {ds : List Nat} {Q : Exit → Act → World → Prop} (S : List (Nat × Value)) (hs : Sat ρ S) (h : ∀ ρ', G w0 A L (fun w => x.wpIn fe m P Q (act n (updl ρ' S) ds) w)) : G w0 A L (fun w => x.wpIn fe m P Q (act n ρ ds) w) := by
  have := h ρ
  rwa [updl_self hs.mem] at this
theorem G.imp {Φ Ψ : World → Prop} (hi : ∀ w, Φ w → Ψ w) (h : G w0 A L Φ) : G w0 A L Ψ := h.mono hi
end
end Go.Sl
/- What goals depend on, in memory: made, added to. -/
namespace Go.Proofs.Yteokgobeafnpoaa
open Go Go.Sl
attribute [local irreducible] Exit.then Exit.inBlock Code.wpIn roundPost bodyPostM runL Ret Meets MeetsD Begin

/-! ### Plain -/
theorem lvl_iff {k : Int} : lvl k = true ↔ 2 ≤ k ∧ k ≤ 8 := by unfold lvl; exact decide_eq_true_iff
theorem fold_len : ∀ (l a : List NumD), a.length ≤ (l.foldl (insC NumD.cmp) a).length
  | [], a => Nat.le_refl _
  | x :: l, a => by
    refine Nat.le_trans ?_ (fold_len l _)
    rw [length_insC]; split <;> omega
theorem fold_len_le : ∀ (l a : List NumD), (l.foldl (insC NumD.cmp) a).length ≤ a.length + l.length
  | [], a => Nat.le_refl _
  | x :: l, a => by
    have h1 := fold_len_le l (insC NumD.cmp a x)
    have h2 := length_insC_le (f := NumD.cmp) a x
    simp only [List.foldl_cons, List.length_cons]; omega
theorem fold_srt : ∀ (l a : List NumD), Srt NumD.cmp a → Srt NumD.cmp (l.foldl (insC NumD.cmp) a)
  | [], _, h => h
  | x :: l, a, h => fold_srt l _ (h.insC linNum x)
theorem fold_snoc (l a : List NumD) (x : NumD) : (l ++ [x]).foldl (insC NumD.cmp) a = insC NumD.cmp (l.foldl (insC NumD.cmp) a) x := by rw [List.foldl_append]; rfl
theorem addD_off {T : DpT} {k : Int} {l : List NumD} (h : lvl k = false) : addD T k l = T := by
  funext j; unfold addD; rw [if_neg (by rw [h]; simp)]
theorem addD_at {T : DpT} {k : Int} {l : List NumD} (h : lvl k = true) : addD T k l k = l.foldl (insC NumD.cmp) (T k) := by unfold addD; rw [if_pos ⟨rfl, h⟩]
theorem addD_ne {T : DpT} {k j : Int} {l : List NumD} (h : j ≠ k) : addD T k l j = T j := by unfold addD; rw [if_neg (fun e => h e.1)]
theorem addD_none {T : DpT} {k : Int} {l : List NumD} (hk : lvl k = true) (h : addD T k l k = []) : addD T k l = T := by
  funext j
  by_cases e : j = k
  · subst e
    rw [h]
    rw [addD_at hk] at h
    have := fold_len l (T j)
    rw [h] at this
    exact (List.length_eq_zero_iff.1 (by simpa using this)).symm
  · exact addD_ne e
theorem DpsI.srtAdd {zs : List PgNN} {T : DpT} (h : DpsI zs T) (k : Int) (l : List NumD) (j : Int) : Srt NumD.cmp (addD T k l j) := by
  unfold addD; split
  · exact fold_srt l _ (h.tsr k)
  · exact h.tsr j
theorem DpsI.rngAdd {zs : List PgNN} {T : DpT} (h : DpsI zs T) (k : Int) (l : List NumD) (j : Int) (hj : addD T k l j ≠ []) : 2 ≤ j ∧ j ≤ 8 := by
  by_cases e : j = k ∧ lvl k = true
  · obtain ⟨rfl, h2⟩ := e; exact lvl_iff.1 h2
  · refine h.rng j ?_
    unfold addD at hj; rwa [if_neg e] at hj
theorem addD_ne_nil {T : DpT} {k : Int} {l : List NumD} {j : Int} (h : T j ≠ []) : addD T k l j ≠ [] := by
  unfold addD; split
  · rename_i e
    obtain ⟨rfl, _⟩ := e
    intro h2
    have := fold_len l (T j)
    rw [h2] at this
    exact h (List.length_eq_zero_iff.1 (by simpa using this))
  · exact h
theorem DpsI.old {zs : List PgNN} {T : DpT} (h : DpsI zs T) {k : Int} (hk : hasC PgNN.cmp zs ⟨⟨k⟩, none⟩ = true) (l : List NumD) : DpsI zs (addD T k l) :=
  ⟨h.srt, h.ptr, fun j => by
    rw [h.has j]
    refine ⟨addD_ne_nil, fun hj => ?_⟩
    by_cases e : j = k
    · subst e; exact (h.has j).1 hk
    · rwa [addD_ne e] at hj, h.rngAdd k l, h.srtAdd k l⟩
theorem DpsI.new {zs : List PgNN} {T : DpT} (h : DpsI zs T) {k : Int} {l : List NumD} (hne : addD T k l k ≠ []) (b : Nat) : DpsI (insC PgNN.cmp zs ⟨⟨k⟩, some b⟩) (addD T k l) :=
  ⟨h.srt.insC PgNN.lin _, fun p hp => by
    rcases mem_insC.1 hp with hp | ⟨_, rfl⟩
    · exact h.ptr p hp
    · simp, fun j => by
    rw [hasC_insC PgNN.lin, Bool.or_eq_true, h.has j, decide_eq_true_eq, PgNN.cmp_iff]
    constructor
    · rintro (h1 | h1)
      · exact addD_ne_nil h1
      · have e : k = j := congrArg NumD.n h1
        subst e; exact hne
    · intro h1
      by_cases e : j = k
      · subst e; exact .inr rfl
      · rw [addD_ne e] at h1; exact .inl h1, h.rngAdd k l, h.srtAdd k l⟩
theorem insC_permN {α : Type} {f : α → α → Int} {ys : List α} {x : α} (h : hasC f ys x = false) : (x :: ys).Perm (insC f ys x) := by
  unfold insC
  unfold hasC at h
  rw [if_neg (by rw [h]; simp)]
  refine List.Perm.trans ?_ List.perm_middle.symm
  rw [List.takeWhile_append_dropWhile]
/-- The key is there with this value: to put it once more changes nothing. -/
theorem PutSMNN_spec (m : Nat) (zs : List PgNN) (k : NumD) (v : Option Nat) (hs : Srt PgNN.cmp zs) (hl : zs.length < 999999999) (hg : getM PgNN.cmp zs ⟨k, none⟩ = some ⟨k, v⟩) : Ctr Try.prog 30 [.pointer (some ⟨m, 0, none⟩), k.val, PgNN.vval v] [MapANN m zs]
    (fun u M => u = .bool false ∧ M = [MapANN m zs]) := (PutMNN_spec m zs k v hs hl).mono fun u M ⟨i, there, h1, h2, h3⟩ => by
  obtain ⟨g1, g2⟩ := getM_mem hg
  have ht : there = true := by
    rw [← hasC_of h3]
    exact List.any_eq_true.2 ⟨_, g1, decide_eq_true g2⟩
  subst ht
  obtain ⟨y, hy, e⟩ := h3.2.1 rfl
  have hyk : y = ⟨k, v⟩ := hs.uniq PgNN.lin (List.mem_of_getElem? hy) g1 (PgNN.cmp_iff.2 (PgNN.cmp_iff.1 e))
  refine ⟨h1, ?_⟩
  rw [h2]
  congr 1
  unfold putLNN
  rw [hy, hyk]
  show MapANN m (zs.set i ⟨k, v⟩) = _
  congr 1
  refine List.ext_getElem? fun j => ?_
  rw [List.getElem?_set]
  split
  · rename_i e2
    subst e2
    rw [hy, hyk, if_pos (List.getElem?_eq_some_iff.1 hy).1]
  · rfl

/-! ### In memory -/
def cellD (T : DpT) (p : PgNN) : SProp := SetANS (p.v.getD 0) (T p.k.n)
abbrev dpC (d m : Nat) : SProp := cellsB d #[.pointer (some ⟨m, 0, none⟩)] 57
def DepP (d : Nat) (T : DpT) : SProp := ex fun z : Nat × List PgNN => sl [pu (DpsI z.2 T), dpC d z.1, MapANN z.1 z.2, bigS z.2 (cellD T)]
section
variable {w0 : World} {A : SProp} {L M : List SProp} {Φ : World → Prop}
theorem openDp (d : Nat) (T : DpT) [tk : Take1 L (DepP d T) M] (h : ∀ m zs, DpsI zs T → G w0 A (dpC d m :: MapANN m zs :: bigS zs (cellD T) :: M) Φ) : G w0 A L Φ :=
  G.perm tk.perm (G.ex fun ⟨m, zs⟩ => G.open_sl (G.pu fun hi => h m zs hi))
theorem shutDp (d : Nat) (T : DpT) (m : Nat) (zs : List PgNN) (hi : DpsI zs T) [tk : Take L [dpC d m, MapANN m zs, bigS zs (cellD T)] M] (h : G w0 A (DepP d T :: M) Φ) : G w0 A L Φ :=
  G.perm tk.perm (G.pu_in hi (G.ent (L := pu (DpsI zs T) :: ([dpC d m, MapANN m zs, bigS zs (cellD T)] ++ M)) (L' := DepP d T :: M)
    ((sl_append_to [pu (DpsI zs T), dpC d m, MapANN m zs, bigS zs (cellD T)] M).trans (Ent.star (show Ent _ (DepP d T) from fun _ _ x => ⟨(m, zs), x⟩) (Ent.refl _))) h))
end
theorem NewDp_spec : Ctr Try.prog 8 [] [] (fun v M => ∃ d, v = .pointer (some ⟨d, 0, none⟩) ∧ M = [DepP d dp0]) := by
  refine spec_of Try.func8 rfl Try.ntmps8 rfl fun w0 F => ?_
  -- hide
  -- ponder/deps.New
  repeat (first | refine g_endt ?_ | refine g_end ?_ | refine g_then ?_ | refine g_in_normal ?_ | refine g_then_ret ?_ | refine g_in_ret ?_ | refine g_then_exit ?_ | refine g_in_exit rfl ?_ | refine g_in_exit_ne (by decide) ?_ | refine g_seq ?_ | refine g_region ?_ | refine g_block ?_ | refine g_ret ?_ | refine g_return_n ?_ | refine g_exit ?_ | refine g_skip ?_)
  refine g_hideR fun Q_ hQ_ => ?_
  refine o_assign ?_
  refine g_end (G.imp (hQ_ .normal _) ?_)
  clear hQ_ Q_
  try refine g_then ?_
  repeat (first | refine g_endt ?_ | refine g_end ?_ | refine g_then ?_ | refine g_in_normal ?_ | refine g_then_ret ?_ | refine g_in_ret ?_ | refine g_then_exit ?_ | refine g_in_exit rfl ?_ | refine g_in_exit_ne (by decide) ?_ | refine g_seq ?_ | refine g_region ?_ | refine g_block ?_ | refine g_ret ?_ | refine g_return_n ?_ | refine g_exit ?_ | refine g_skip ?_)
  refine g_hideR fun Q_ hQ_ => ?_
  refine o_call (NewMNN_spec) rfl rfl ?_
  rintro _ _ ⟨m, rfl, rfl⟩
  refine o_build (.agg #[.pointer (some ⟨m, 0, none⟩)]) (fun w => by kernel_rfl) ?_
  refine o_boxc #[.pointer (some ⟨m, 0, none⟩)] rfl rfl fun d => ?_
  refine o_assign ?_
  refine g_end (G.imp (hQ_ .normal _) ?_)
  clear hQ_ Q_
  try refine g_then ?_
  refine G.bnil (cellD dp0) ?_
  refine shutDp d dp0 m [] DpsI.nil ?_
  repeat (first | refine g_endt ?_ | refine g_end ?_ | refine g_then ?_ | refine g_in_normal ?_ | refine g_then_ret ?_ | refine g_in_ret ?_ | refine g_then_exit ?_ | refine g_in_exit rfl ?_ | refine g_in_exit_ne (by decide) ?_ | refine g_seq ?_ | refine g_region ?_ | refine g_block ?_ | refine g_ret ?_ | refine g_return_n ?_ | refine g_exit ?_ | refine g_skip ?_)
  exact ret1 (K := [DepP d dp0]) rfl (resT rfl) ⟨d, rfl, rfl⟩
abbrev cS (c b : Nat) : SProp := cellsB c #[.pointer (some ⟨b, 0, none⟩)] 55
set_option maxHeartbeats 2000000 in
theorem AddDp_spec (d : Nat) (T : DpT) (k : Int) (gf : FuncId) (lb : List Value) (xs : List Int) (hx : xs.length ≤ 1000000) (hb : ∀ j, (T j).length ≤ 1000000) (Ks : List SProp) [En Try.prog gf] (hit : ∀ K, Iter Try.prog gf lb encVI xs (K ++ Ks)) :
    Ctr Try.prog 11 [.pointer (some ⟨d, 0, none⟩), .int .i64 k, .func (.func gf) #[] lb.toArray] (DepP d T :: Ks) (fun v M => v = .bool (lvl k) ∧ M = DepP d (addD T k (xs.map NumD.mk)) :: Ks) := by
  refine spec_of Try.func11 rfl Try.ntmps11 rfl fun w0 F => ?_
  -- hide
  -- (*ponder/deps.Deps).Add
  repeat (first | refine g_endt ?_ | refine g_end ?_ | refine g_then ?_ | refine g_in_normal ?_ | refine g_then_ret ?_ | refine g_in_ret ?_ | refine g_then_exit ?_ | refine g_in_exit rfl ?_ | refine g_in_exit_ne (by decide) ?_ | refine g_seq ?_ | refine g_region ?_ | refine g_block ?_ | refine g_ret ?_ | refine g_return_n ?_ | refine g_exit ?_ | refine g_skip ?_)
  refine g_hideR fun Q_ hQ_ => ?_
  refine o_assign ?_
  refine g_end (G.imp (hQ_ .normal _) ?_)
  clear hQ_ Q_
  try refine g_then ?_
  by_cases h1 : k < 2
  · skip
    repeat (first | refine g_endt ?_ | refine g_end ?_ | refine g_then ?_ | refine g_in_normal ?_ | refine g_then_ret ?_ | refine g_in_ret ?_ | refine g_then_exit ?_ | refine g_in_exit rfl ?_ | refine g_in_exit_ne (by decide) ?_ | refine g_seq ?_ | refine g_region ?_ | refine g_block ?_ | refine g_ret ?_ | refine g_return_n ?_ | refine g_exit ?_ | refine g_skip ?_)
    refine g_hideR fun Q_ hQ_ => ?_
    refine o_move ?_
    refine o_lss rfl rfl ?_
    rw [decide_eq_true h1]
    refine o_move ?_
    first | (refine o_want rfl rfl rfl rfl rfl ?_; refine o_move ?_) | refine o_unwanted rfl rfl rfl rfl rfl ?_ | refine o_undef rfl rfl rfl ?_
    first | (refine o_want rfl rfl rfl rfl rfl ?_; refine o_gtr rfl rfl ?_) | refine o_unwanted rfl rfl rfl rfl rfl ?_ | refine o_undef rfl rfl rfl ?_
    first | refine o_pick_t rfl rfl ?_ | refine o_pick_f rfl rfl ?_
    refine g_end (G.imp (hQ_ .normal _) ?_)
    clear hQ_ Q_
    try refine g_then ?_
    first | refine g_seq (g_cond_t rfl (by first | rfl | (simp; done) | (simp; omega) | (simp; assumption)) ?_) | refine g_cond_t rfl (by first | rfl | (simp; done) | (simp; omega) | (simp; assumption)) ?_
    repeat (first | refine g_endt ?_ | refine g_end ?_ | refine g_then ?_ | refine g_in_normal ?_ | refine g_then_ret ?_ | refine g_in_ret ?_ | refine g_then_exit ?_ | refine g_in_exit rfl ?_ | refine g_in_exit_ne (by decide) ?_ | refine g_seq ?_ | refine g_region ?_ | refine g_block ?_ | refine g_ret ?_ | refine g_return_n ?_ | refine g_exit ?_ | refine g_skip ?_)
    refine g_hideR fun Q_ hQ_ => ?_
    refine o_assign ?_
    refine g_end (G.imp (hQ_ .normal _) ?_)
    clear hQ_ Q_
    try refine g_then ?_
    repeat (first | refine g_endt ?_ | refine g_end ?_ | refine g_then ?_ | refine g_in_normal ?_ | refine g_then_ret ?_ | refine g_in_ret ?_ | refine g_then_exit ?_ | refine g_in_exit rfl ?_ | refine g_in_exit_ne (by decide) ?_ | refine g_seq ?_ | refine g_region ?_ | refine g_block ?_ | refine g_ret ?_ | refine g_return_n ?_ | refine g_exit ?_ | refine g_skip ?_)
    have hl : lvl k = false := by unfold lvl; exact decide_eq_false (by omega)
    exact ret1 (K := DepP d T :: Ks) rfl (resT (v := .bool false) rfl) ⟨by rw [hl], by rw [addD_off hl]⟩
  by_cases h2 : 8 < k
  · skip
    repeat (first | refine g_endt ?_ | refine g_end ?_ | refine g_then ?_ | refine g_in_normal ?_ | refine g_then_ret ?_ | refine g_in_ret ?_ | refine g_then_exit ?_ | refine g_in_exit rfl ?_ | refine g_in_exit_ne (by decide) ?_ | refine g_seq ?_ | refine g_region ?_ | refine g_block ?_ | refine g_ret ?_ | refine g_return_n ?_ | refine g_exit ?_ | refine g_skip ?_)
    refine g_hideR fun Q_ hQ_ => ?_
    refine o_move ?_
    refine o_lss rfl rfl ?_
    rw [decide_eq_false h1]
    refine o_move ?_
    first | (refine o_want rfl rfl rfl rfl rfl ?_; refine o_move ?_) | refine o_unwanted rfl rfl rfl rfl rfl ?_ | refine o_undef rfl rfl rfl ?_
    first | (refine o_want rfl rfl rfl rfl rfl ?_; refine o_gtr rfl rfl ?_) | refine o_unwanted rfl rfl rfl rfl rfl ?_ | refine o_undef rfl rfl rfl ?_
    rw [show decide (k > 8) = true from decide_eq_true h2]
    first | refine o_pick_t rfl rfl ?_ | refine o_pick_f rfl rfl ?_
    refine g_end (G.imp (hQ_ .normal _) ?_)
    clear hQ_ Q_
    try refine g_then ?_
    first | refine g_seq (g_cond_t rfl (by first | rfl | (simp; done) | (simp; omega) | (simp; assumption)) ?_) | refine g_cond_t rfl (by first | rfl | (simp; done) | (simp; omega) | (simp; assumption)) ?_
    repeat (first | refine g_endt ?_ | refine g_end ?_ | refine g_then ?_ | refine g_in_normal ?_ | refine g_then_ret ?_ | refine g_in_ret ?_ | refine g_then_exit ?_ | refine g_in_exit rfl ?_ | refine g_in_exit_ne (by decide) ?_ | refine g_seq ?_ | refine g_region ?_ | refine g_block ?_ | refine g_ret ?_ | refine g_return_n ?_ | refine g_exit ?_ | refine g_skip ?_)
    refine g_hideR fun Q_ hQ_ => ?_
    refine o_assign ?_
    refine g_end (G.imp (hQ_ .normal _) ?_)
    clear hQ_ Q_
    try refine g_then ?_
    repeat (first | refine g_endt ?_ | refine g_end ?_ | refine g_then ?_ | refine g_in_normal ?_ | refine g_then_ret ?_ | refine g_in_ret ?_ | refine g_then_exit ?_ | refine g_in_exit rfl ?_ | refine g_in_exit_ne (by decide) ?_ | refine g_seq ?_ | refine g_region ?_ | refine g_block ?_ | refine g_ret ?_ | refine g_return_n ?_ | refine g_exit ?_ | refine g_skip ?_)
    have hl : lvl k = false := by unfold lvl; exact decide_eq_false (by omega)
    exact ret1 (K := DepP d T :: Ks) rfl (resT (v := .bool false) rfl) ⟨by rw [hl], by rw [addD_off hl]⟩
  have hlv : lvl k = true := lvl_iff.2 ⟨by omega, by omega⟩
  repeat (first | refine g_endt ?_ | refine g_end ?_ | refine g_then ?_ | refine g_in_normal ?_ | refine g_then_ret ?_ | refine g_in_ret ?_ | refine g_then_exit ?_ | refine g_in_exit rfl ?_ | refine g_in_exit_ne (by decide) ?_ | refine g_seq ?_ | refine g_region ?_ | refine g_block ?_ | refine g_ret ?_ | refine g_return_n ?_ | refine g_exit ?_ | refine g_skip ?_)
  refine g_hideR fun Q_ hQ_ => ?_
  refine o_move ?_
  refine o_lss rfl rfl ?_
  rw [decide_eq_false h1]
  refine o_move ?_
  first | (refine o_want rfl rfl rfl rfl rfl ?_; refine o_move ?_) | refine o_unwanted rfl rfl rfl rfl rfl ?_ | refine o_undef rfl rfl rfl ?_
  first | (refine o_want rfl rfl rfl rfl rfl ?_; refine o_gtr rfl rfl ?_) | refine o_unwanted rfl rfl rfl rfl rfl ?_ | refine o_undef rfl rfl rfl ?_
  rw [show decide (k > 8) = false from decide_eq_false h2]
  first | refine o_pick_t rfl rfl ?_ | refine o_pick_f rfl rfl ?_
  refine g_end (G.imp (hQ_ .normal _) ?_)
  clear hQ_ Q_
  try refine g_then ?_
  first | refine g_seq (g_cond_f rfl (by first | rfl | (simp; done) | (simp; omega) | (simp; assumption)) ?_) | refine g_cond_f rfl (by first | rfl | (simp; done) | (simp; omega) | (simp; assumption)) ?_
  refine openDp d T fun m zs hi => ?_
  have hzl := hi.len
  obtain ⟨o, ho⟩ : ∃ o, getM PgNN.cmp zs ⟨⟨k⟩, none⟩ = o := ⟨_, rfl⟩
  repeat (first | refine g_endt ?_ | refine g_end ?_ | refine g_then ?_ | refine g_in_normal ?_ | refine g_then_ret ?_ | refine g_in_ret ?_ | refine g_then_exit ?_ | refine g_in_exit rfl ?_ | refine g_in_exit_ne (by decide) ?_ | refine g_seq ?_ | refine g_region ?_ | refine g_block ?_ | refine g_ret ?_ | refine g_return_n ?_ | refine g_exit ?_ | refine g_skip ?_)
  refine g_hideR fun Q_ hQ_ => ?_
  refine o_move ?_
  refine o_nil rfl ?_
  first | refine o_field rfl ?_ | refine o_fieldR rfl (by omega) ?_
  refine o_load1 (v := .pointer (some ⟨m, 0, none⟩)) rfl rfl ?_
  refine o_move ?_
  refine o_call (GetNMNN_spec m zs ⟨k⟩ hi.srt (by omega) ho) rfl rfl ?_
  rintro _ _ ⟨rfl, rfl⟩
  refine o_move ?_
  refine o_extract rfl rfl ?_
  refine o_extract rfl rfl ?_
  refine o_alloc fun c => ?_
  refine o_store (v := PgNN.vval (o.getD PgNN.zero).v) rfl rfl rfl rfl rfl ?_
  refine o_assign ?_
  refine g_end (G.imp (hQ_ .normal _) ?_)
  clear hQ_ Q_
  try refine g_then ?_
  refine g_cut (σ := Nat × List PgNN) (ds' := []) (S := fun s => [(0, .pointer (some ⟨d, 0, none⟩)), (1, .int .i64 k), (2, .func (.func gf) #[] lb.toArray), (7, .pointer (some ⟨c, 0, none⟩))])
    (H := fun s => cS c s.1 :: SetANS s.1 (T k) :: dpC d m :: MapANN m zs :: bigS s.2 (cellD T) :: Ks)
    (ok := fun s => (∀ q ∈ s.2, q.k ≠ ⟨k⟩) ∧ ((getM PgNN.cmp zs ⟨⟨k⟩, none⟩ = some ⟨⟨k⟩, some s.1⟩ ∧ zs.Perm (⟨⟨k⟩, some s.1⟩ :: s.2)) ∨ (hasC PgNN.cmp zs ⟨⟨k⟩, none⟩ = false ∧ s.2 = zs))) ?_ ?_
  · cases o with
    | some p =>
      obtain ⟨b, us, rfl, hperm, hne, _⟩ := hi.get ho
      refine G.norm c #[.pointer (some ⟨b, 0, none⟩)] rfl ?_
      repeat (first | refine g_endt ?_ | refine g_end ?_ | refine g_then ?_ | refine g_in_normal ?_ | refine g_then_ret ?_ | refine g_in_ret ?_ | refine g_then_exit ?_ | refine g_in_exit rfl ?_ | refine g_in_exit_ne (by decide) ?_ | refine g_seq ?_ | refine g_region ?_ | refine g_block ?_ | refine g_ret ?_ | refine g_return_n ?_ | refine g_exit ?_ | refine g_skip ?_)
      refine g_hideR fun Q_ hQ_ => ?_
      refine o_move ?_
      refine o_not rfl ?_
      refine g_end (G.imp (hQ_ .normal _) ?_)
      clear hQ_ Q_
      try refine g_then ?_
      first | refine g_seq (g_cond_f rfl (by first | rfl | (simp; done) | (simp; omega) | (simp; assumption)) ?_) | refine g_cond_f rfl (by first | rfl | (simp; done) | (simp; omega) | (simp; assumption)) ?_
      refine G.bopen (f := cellD T) ⟨⟨k⟩, some b⟩ us hperm ?_
      change G _ _ (SetANS b (T k) :: _) _
      repeat (first | refine g_endt ?_ | refine g_end ?_ | refine g_then ?_ | refine g_in_normal ?_ | refine g_then_ret ?_ | refine g_in_ret ?_ | refine g_then_exit ?_ | refine g_in_exit rfl ?_ | refine g_in_exit_ne (by decide) ?_ | refine g_seq ?_ | refine g_region ?_ | refine g_block ?_ | refine g_ret ?_ | refine g_return_n ?_ | refine g_exit ?_ | refine g_skip ?_)
      exact g_meets (b, us) ⟨hne, .inl ⟨ho, hperm⟩⟩ (Sat.mem ⟨rfl, rfl, rfl, rfl, trivial⟩)
    | none =>
      have hh : hasC PgNN.cmp zs ⟨⟨k⟩, none⟩ = false := by rw [← getM_isSome, ho]; rfl
      have hTk : T k = [] := by
        by_cases e : T k = []
        · exact e
        · have := (hi.has k).2 e; rw [hh] at this; cases this
      have hne : ∀ q ∈ zs, q.k ≠ ⟨k⟩ := fun q hq r => by
        have := List.any_eq_false.1 (show zs.any (fun y => decide (PgNN.cmp y ⟨⟨k⟩, none⟩ = 0)) = false from hh) q hq
        exact this (decide_eq_true (PgNN.cmp_iff.2 r))
      refine G.norm c #[.pointer none] rfl ?_
      repeat (first | refine g_endt ?_ | refine g_end ?_ | refine g_then ?_ | refine g_in_normal ?_ | refine g_then_ret ?_ | refine g_in_ret ?_ | refine g_then_exit ?_ | refine g_in_exit rfl ?_ | refine g_in_exit_ne (by decide) ?_ | refine g_seq ?_ | refine g_region ?_ | refine g_block ?_ | refine g_ret ?_ | refine g_return_n ?_ | refine g_exit ?_ | refine g_skip ?_)
      refine g_hideR fun Q_ hQ_ => ?_
      refine o_move ?_
      refine o_not rfl ?_
      refine g_end (G.imp (hQ_ .normal _) ?_)
      clear hQ_ Q_
      try refine g_then ?_
      first | refine g_seq (g_cond_t rfl (by first | rfl | (simp; done) | (simp; omega) | (simp; assumption)) ?_) | refine g_cond_t rfl (by first | rfl | (simp; done) | (simp; omega) | (simp; assumption)) ?_
      repeat (first | refine g_endt ?_ | refine g_end ?_ | refine g_then ?_ | refine g_in_normal ?_ | refine g_then_ret ?_ | refine g_in_ret ?_ | refine g_then_exit ?_ | refine g_in_exit rfl ?_ | refine g_in_exit_ne (by decide) ?_ | refine g_seq ?_ | refine g_region ?_ | refine g_block ?_ | refine g_ret ?_ | refine g_return_n ?_ | refine g_exit ?_ | refine g_skip ?_)
      refine g_hideR fun Q_ hQ_ => ?_
      refine o_call (NewNS_spec) rfl rfl ?_
      rintro _ _ ⟨b, rfl, rfl⟩
      refine o_store (v := .pointer (some ⟨b, 0, none⟩)) rfl rfl rfl rfl rfl ?_
      refine g_end (G.imp (hQ_ .normal _) ?_)
      clear hQ_ Q_
      try refine g_then ?_
      refine G.norm c #[.pointer (some ⟨b, 0, none⟩)] rfl ?_
      rw [← hTk]
      exact g_meets (b, zs) ⟨hne, .inr ⟨hh, rfl⟩⟩ (Sat.mem ⟨rfl, rfl, rfl, rfl, trivial⟩)
  rintro ⟨b, us⟩ ρ2 ⟨hne, hcase⟩
  dsimp only at hne hcase ⊢
  have hcell : bigS us (cellD T) = bigS us (cellD (addD T k (xs.map NumD.mk))) := bigS_congr fun p hp => by
    unfold cellD; rw [addD_ne (fun e => hne p hp (by rw [← e]))]
  repeat (first | refine g_endt ?_ | refine g_end ?_ | refine g_then ?_ | refine g_in_normal ?_ | refine g_then_ret ?_ | refine g_in_ret ?_ | refine g_then_exit ?_ | refine g_in_exit rfl ?_ | refine g_in_exit_ne (by decide) ?_ | refine g_seq ?_ | refine g_region ?_ | refine g_block ?_ | refine g_ret ?_ | refine g_return_n ?_ | refine g_exit ?_ | refine g_skip ?_)
  refine g_hideR fun Q_ hQ_ => ?_
  refine o_move ?_
  refine g_end (G.imp (hQ_ .normal _) ?_)
  clear hQ_ Q_
  try refine g_then ?_
  repeat (first | refine g_endt ?_ | refine g_end ?_ | refine g_then ?_ | refine g_in_normal ?_ | refine g_then_ret ?_ | refine g_in_ret ?_ | refine g_then_exit ?_ | refine g_in_exit rfl ?_ | refine g_in_exit_ne (by decide) ?_ | refine g_seq ?_ | refine g_region ?_ | refine g_block ?_ | refine g_ret ?_ | refine g_return_n ?_ | refine g_exit ?_ | refine g_skip ?_)
  refine g_range (ps := [29]) (lb := lb) (enc := encVI) (xs := xs) rfl
    (fun pre => [SetANS b ((pre.map NumD.mk).foldl (insC NumD.cmp) (T k)), cS c b, dpC d m, MapANN m zs, bigS us (cellD T)] ++ Ks) (fun _ _ => [pu False])
    (fun K => hit [K, SetANS b (T k), cS c b, dpC d m, MapANN m zs, bigS us (cellD T)]) (fun _ => rfl) (tk := (inferInstance : Take _ (SetANS b (T k) :: cS c b :: dpC d m :: MapANN m zs :: bigS us (cellD T) :: Ks) _)) ?_ ?_ ?_
  · intro w0 F l r pre x hp
    have hlen : pre.length < xs.length := by
      obtain ⟨t, ht⟩ := hp
      have := congrArg List.length ht
      simp at this
      omega
    have hfl := fold_len_le (pre.map NumD.mk) (T k)
    have hbk := hb k
    have hfs := fold_srt (pre.map NumD.mk) (T k) (hi.tsr k)
    have hsn := fold_snoc (pre.map NumD.mk) (T k) ⟨x⟩
    rw [show pre.map NumD.mk ++ [⟨x⟩] = (pre ++ [x]).map NumD.mk by simp] at hsn
    rw [List.length_map] at hfl
    rw [hsn]
    generalize (pre.map NumD.mk).foldl (insC NumD.cmp) (T k) = ys at hfl hfs ⊢
    repeat (first | refine g_endt ?_ | refine g_end ?_ | refine g_then ?_ | refine g_in_normal ?_ | refine g_then_ret ?_ | refine g_in_ret ?_ | refine g_then_exit ?_ | refine g_in_exit rfl ?_ | refine g_in_exit_ne (by decide) ?_ | refine g_seq ?_ | refine g_region ?_ | refine g_block ?_ | refine g_ret ?_ | refine g_return_n ?_ | refine g_exit ?_ | refine g_skip ?_)
    refine g_hideR fun Q_ hQ_ => ?_
    refine o_assign ?_
    refine g_end (G.imp (hQ_ .normal _) ?_)
    clear hQ_ Q_
    try refine g_then ?_
    repeat (first | refine g_endt ?_ | refine g_end ?_ | refine g_then ?_ | refine g_in_normal ?_ | refine g_then_ret ?_ | refine g_in_ret ?_ | refine g_then_exit ?_ | refine g_in_exit rfl ?_ | refine g_in_exit_ne (by decide) ?_ | refine g_seq ?_ | refine g_region ?_ | refine g_block ?_ | refine g_ret ?_ | refine g_return_n ?_ | refine g_exit ?_ | refine g_skip ?_)
    refine g_begin ?_
    repeat (first | refine g_endt ?_ | refine g_end ?_ | refine g_then ?_ | refine g_in_normal ?_ | refine g_then_ret ?_ | refine g_in_ret ?_ | refine g_then_exit ?_ | refine g_in_exit rfl ?_ | refine g_in_exit_ne (by decide) ?_ | refine g_seq ?_ | refine g_region ?_ | refine g_block ?_ | refine g_ret ?_ | refine g_return_n ?_ | refine g_exit ?_ | refine g_skip ?_)
    refine g_hideR fun Q_ hQ_ => ?_
    refine o_load1 (v := .pointer (some ⟨b, 0, none⟩)) rfl rfl ?_
    refine o_move ?_
    refine o_call (PutCNS_spec b ys ⟨x⟩ hfs (by omega)) rfl rfl ?_
    rintro _ _ ⟨rfl, rfl⟩
    refine g_end (G.imp (hQ_ .normal _) ?_)
    clear hQ_ Q_
    try refine g_then ?_
    repeat (first | refine g_endt ?_ | refine g_end ?_ | refine g_then ?_ | refine g_in_normal ?_ | refine g_then_ret ?_ | refine g_in_ret ?_ | refine g_then_exit ?_ | refine g_in_exit rfl ?_ | refine g_in_exit_ne (by decide) ?_ | refine g_seq ?_ | refine g_region ?_ | refine g_block ?_ | refine g_ret ?_ | refine g_return_n ?_ | refine g_exit ?_ | refine g_skip ?_)
    exact g_next
  · intro D
    have hat := addD_at (T := T) (l := xs.map NumD.mk) hlv
    rw [← hat]
    obtain ⟨ys, hys⟩ : ∃ ys, addD T k (xs.map NumD.mk) k = ys := ⟨_, rfl⟩
    rw [hys]
    repeat (first | refine g_endt ?_ | refine g_end ?_ | refine g_then ?_ | refine g_in_normal ?_ | refine g_then_ret ?_ | refine g_in_ret ?_ | refine g_then_exit ?_ | refine g_in_exit rfl ?_ | refine g_in_exit_ne (by decide) ?_ | refine g_seq ?_ | refine g_region ?_ | refine g_block ?_ | refine g_ret ?_ | refine g_return_n ?_ | refine g_exit ?_ | refine g_skip ?_)
    refine g_hideR fun Q_ hQ_ => ?_
    refine o_load1 (v := .pointer (some ⟨b, 0, none⟩)) rfl rfl ?_
    refine o_call (LenNS_spec b ys) rfl rfl ?_
    rintro _ _ ⟨rfl, rfl⟩
    refine o_gtr rfl rfl ?_
    refine g_end (G.imp (hQ_ .normal _) ?_)
    clear hQ_ Q_
    try refine g_then ?_
    rcases hcase with ⟨hg, hperm⟩ | ⟨hh, rfl⟩
    · have hhas : hasC PgNN.cmp zs ⟨⟨k⟩, none⟩ = true := by rw [← getM_isSome, hg]; rfl
      have hyn : ys ≠ [] := by rw [← hys]; exact addD_ne_nil ((hi.has k).1 hhas)
      have hlen : 0 < ys.length := List.length_pos_iff.2 hyn
      first | refine g_seq (g_cond_t rfl (by first | rfl | (simp; done) | (simp; omega) | (simp; assumption)) ?_) | refine g_cond_t rfl (by first | rfl | (simp; done) | (simp; omega) | (simp; assumption)) ?_
      repeat (first | refine g_endt ?_ | refine g_end ?_ | refine g_then ?_ | refine g_in_normal ?_ | refine g_then_ret ?_ | refine g_in_ret ?_ | refine g_then_exit ?_ | refine g_in_exit rfl ?_ | refine g_in_exit_ne (by decide) ?_ | refine g_seq ?_ | refine g_region ?_ | refine g_block ?_ | refine g_ret ?_ | refine g_return_n ?_ | refine g_exit ?_ | refine g_skip ?_)
      refine g_hide fun Q_ hQ_ => ?_
      refine g_draw [6] [0,1,2,3,4,5,6] [dpC d m, cS c b] mixed rfl ?_
      refine ob_q rfl rfl ⟨_, fun X Q h => o_move (g_end (h _ _ ⟨rfl, rfl⟩)), ?_⟩
      refine ob_q rfl rfl ⟨_, fun X Q h => o_nil rfl (g_end (h _ _ ⟨rfl, rfl⟩)), ?_⟩
      first | refine ob_q rfl rfl ⟨_, fun X Q h => o_field rfl (g_end (h _ _ ⟨rfl, rfl⟩)), ?_⟩ | refine ob_q rfl rfl ⟨_, fun X Q h => o_fieldR rfl (by omega) (g_end (h _ _ ⟨rfl, rfl⟩)), ?_⟩
      refine ob_q rfl rfl ⟨_, fun X Q h => o_load1 (v := .pointer (some ⟨m, 0, none⟩)) rfl rfl (g_end (h _ _ ⟨rfl, rfl⟩)), ?_⟩
      refine ob_q rfl rfl ⟨_, fun X Q h => o_move (g_end (h _ _ ⟨rfl, rfl⟩)), ?_⟩
      refine ob_q rfl rfl ⟨_, fun X Q h => o_load1 (v := .pointer (some ⟨b, 0, none⟩)) rfl rfl (g_end (h _ _ ⟨rfl, rfl⟩)), ?_⟩
      refine ob_l rfl rfl fun Qz hz => o_call (PutSMNN_spec m zs ⟨k⟩ (some b) hi.srt (by omega) hg) rfl rfl ?_
      rintro _ _ ⟨rfl, rfl⟩
      refine g_end (hz _ _ ⟨_, ob_fin, ?_⟩)
      clear hz Qz
      refine ob_nil ?_
      refine G.imp (hQ_ .normal _) ?_
      clear hQ_ Q_
      try refine g_then ?_
      rw [hcell, ← hys]
      refine G.bshut zs (cellD (addD T k (xs.map NumD.mk))) ⟨⟨k⟩, some b⟩ us hperm.symm (tk := (inferInstance : Take _ [SetANS b (addD T k (xs.map NumD.mk) k), bigS us (cellD (addD T k (xs.map NumD.mk)))] _)) ?_
      refine shutDp d (addD T k (xs.map NumD.mk)) m zs (hi.old hhas _) ?_
      repeat (first | refine g_endt ?_ | refine g_end ?_ | refine g_then ?_ | refine g_in_normal ?_ | refine g_then_ret ?_ | refine g_in_ret ?_ | refine g_then_exit ?_ | refine g_in_exit rfl ?_ | refine g_in_exit_ne (by decide) ?_ | refine g_seq ?_ | refine g_region ?_ | refine g_block ?_ | refine g_ret ?_ | refine g_return_n ?_ | refine g_exit ?_ | refine g_skip ?_)
      refine g_hideR fun Q_ hQ_ => ?_
      refine o_assign ?_
      refine g_end (G.imp (hQ_ .normal _) ?_)
      clear hQ_ Q_
      try refine g_then ?_
      repeat (first | refine g_endt ?_ | refine g_end ?_ | refine g_then ?_ | refine g_in_normal ?_ | refine g_then_ret ?_ | refine g_in_ret ?_ | refine g_then_exit ?_ | refine g_in_exit rfl ?_ | refine g_in_exit_ne (by decide) ?_ | refine g_seq ?_ | refine g_region ?_ | refine g_block ?_ | refine g_ret ?_ | refine g_return_n ?_ | refine g_exit ?_ | refine g_skip ?_)
      exact ret1 (K := DepP d (addD T k (xs.map NumD.mk)) :: Ks) rfl (resT (v := .bool true) rfl) ⟨by rw [hlv], rfl⟩
    · by_cases hyn : ys = []
      · subst hyn
        have e := addD_none hlv hys
        first | refine g_seq (g_cond_f rfl (by first | rfl | (simp; done) | (simp; omega) | (simp; assumption)) ?_) | refine g_cond_f rfl (by first | rfl | (simp; done) | (simp; omega) | (simp; assumption)) ?_
        refine shutDp d T m us hi ?_
        repeat (first | refine g_endt ?_ | refine g_end ?_ | refine g_then ?_ | refine g_in_normal ?_ | refine g_then_ret ?_ | refine g_in_ret ?_ | refine g_then_exit ?_ | refine g_in_exit rfl ?_ | refine g_in_exit_ne (by decide) ?_ | refine g_seq ?_ | refine g_region ?_ | refine g_block ?_ | refine g_ret ?_ | refine g_return_n ?_ | refine g_exit ?_ | refine g_skip ?_)
        repeat (first | refine g_endt ?_ | refine g_end ?_ | refine g_then ?_ | refine g_in_normal ?_ | refine g_then_ret ?_ | refine g_in_ret ?_ | refine g_then_exit ?_ | refine g_in_exit rfl ?_ | refine g_in_exit_ne (by decide) ?_ | refine g_seq ?_ | refine g_region ?_ | refine g_block ?_ | refine g_ret ?_ | refine g_return_n ?_ | refine g_exit ?_ | refine g_skip ?_)
        refine g_hideR fun Q_ hQ_ => ?_
        refine o_assign ?_
        refine g_end (G.imp (hQ_ .normal _) ?_)
        clear hQ_ Q_
        try refine g_then ?_
        repeat (first | refine g_endt ?_ | refine g_end ?_ | refine g_then ?_ | refine g_in_normal ?_ | refine g_then_ret ?_ | refine g_in_ret ?_ | refine g_then_exit ?_ | refine g_in_exit rfl ?_ | refine g_in_exit_ne (by decide) ?_ | refine g_seq ?_ | refine g_region ?_ | refine g_block ?_ | refine g_ret ?_ | refine g_return_n ?_ | refine g_exit ?_ | refine g_skip ?_)
        exact ret1 (K := DepP d T :: Ks) rfl (resT (v := .bool true) rfl) ⟨by rw [hlv], by rw [e]⟩
      · have hlen : 0 < ys.length := List.length_pos_iff.2 hyn
        first | refine g_seq (g_cond_t rfl (by first | rfl | (simp; done) | (simp; omega) | (simp; assumption)) ?_) | refine g_cond_t rfl (by first | rfl | (simp; done) | (simp; omega) | (simp; assumption)) ?_
        repeat (first | refine g_endt ?_ | refine g_end ?_ | refine g_then ?_ | refine g_in_normal ?_ | refine g_then_ret ?_ | refine g_in_ret ?_ | refine g_then_exit ?_ | refine g_in_exit rfl ?_ | refine g_in_exit_ne (by decide) ?_ | refine g_seq ?_ | refine g_region ?_ | refine g_block ?_ | refine g_ret ?_ | refine g_return_n ?_ | refine g_exit ?_ | refine g_skip ?_)
        refine g_hide fun Q_ hQ_ => ?_
        refine g_draw [6] [0,1,2,3,4,5,6] [dpC d m, cS c b] mixed rfl ?_
        refine ob_q rfl rfl ⟨_, fun X Q h => o_move (g_end (h _ _ ⟨rfl, rfl⟩)), ?_⟩
        refine ob_q rfl rfl ⟨_, fun X Q h => o_nil rfl (g_end (h _ _ ⟨rfl, rfl⟩)), ?_⟩
        first | refine ob_q rfl rfl ⟨_, fun X Q h => o_field rfl (g_end (h _ _ ⟨rfl, rfl⟩)), ?_⟩ | refine ob_q rfl rfl ⟨_, fun X Q h => o_fieldR rfl (by omega) (g_end (h _ _ ⟨rfl, rfl⟩)), ?_⟩
        refine ob_q rfl rfl ⟨_, fun X Q h => o_load1 (v := .pointer (some ⟨m, 0, none⟩)) rfl rfl (g_end (h _ _ ⟨rfl, rfl⟩)), ?_⟩
        refine ob_q rfl rfl ⟨_, fun X Q h => o_move (g_end (h _ _ ⟨rfl, rfl⟩)), ?_⟩
        refine ob_q rfl rfl ⟨_, fun X Q h => o_load1 (v := .pointer (some ⟨b, 0, none⟩)) rfl rfl (g_end (h _ _ ⟨rfl, rfl⟩)), ?_⟩
        refine ob_l rfl rfl fun Qz hz => o_call (PutNMNN_spec m us ⟨k⟩ (some b) hi.srt (by omega) hh) rfl rfl ?_
        rintro _ _ ⟨rfl, rfl⟩
        refine g_end (hz _ _ ⟨_, ob_fin, ?_⟩)
        clear hz Qz
        refine ob_nil ?_
        refine G.imp (hQ_ .normal _) ?_
        clear hQ_ Q_
        try refine g_then ?_
        rw [hcell, ← hys]
        refine G.bshut (insC PgNN.cmp us ⟨⟨k⟩, some b⟩) (cellD (addD T k (xs.map NumD.mk))) ⟨⟨k⟩, some b⟩ us (insC_permN hh) (tk := (inferInstance : Take _ [SetANS b (addD T k (xs.map NumD.mk) k), bigS us (cellD (addD T k (xs.map NumD.mk)))] _)) ?_
        refine shutDp d (addD T k (xs.map NumD.mk)) m (insC PgNN.cmp us ⟨⟨k⟩, some b⟩) (hi.new (by rw [hys]; exact hyn) b) ?_
        repeat (first | refine g_endt ?_ | refine g_end ?_ | refine g_then ?_ | refine g_in_normal ?_ | refine g_then_ret ?_ | refine g_in_ret ?_ | refine g_then_exit ?_ | refine g_in_exit rfl ?_ | refine g_in_exit_ne (by decide) ?_ | refine g_seq ?_ | refine g_region ?_ | refine g_block ?_ | refine g_ret ?_ | refine g_return_n ?_ | refine g_exit ?_ | refine g_skip ?_)
        refine g_hideR fun Q_ hQ_ => ?_
        refine o_assign ?_
        refine g_end (G.imp (hQ_ .normal _) ?_)
        clear hQ_ Q_
        try refine g_then ?_
        repeat (first | refine g_endt ?_ | refine g_end ?_ | refine g_then ?_ | refine g_in_normal ?_ | refine g_then_ret ?_ | refine g_in_ret ?_ | refine g_then_exit ?_ | refine g_in_exit rfl ?_ | refine g_in_exit_ne (by decide) ?_ | refine g_seq ?_ | refine g_region ?_ | refine g_block ?_ | refine g_ret ?_ | refine g_return_n ?_ | refine g_exit ?_ | refine g_skip ?_)
        exact ret1 (K := DepP d (addD T k (xs.map NumD.mk)) :: Ks) rfl (resT (v := .bool true) rfl) ⟨by rw [hlv], rfl⟩
  · intro D c pre hp
    exact G.pu fun h => h.elim
end Go.Proofs.Yteokgobeafnpoaa
/- An ordered map's functions, for one type of keys and one of values: the keys alone. -/
namespace Go.Proofs.Yteokgobeafnpoaa
open Go Go.Sl
attribute [local irreducible] Code.wpIn roundPost bodyPostM runL Ret Meets Begin

def PgNN.enck (p : PgNN) : List Value := [p.k.val]
theorem KeysM1NN_iter (m b : Nat) (ys : List PgNN) (hl : ys.length < 1000000000) (J0 : List SProp) {M : List SProp} [tk : Take1 J0 (MapANN m ys) M] [HasP J0 (pblk b (.cells #[.pointer (some ⟨m, 0, none⟩)] 52 (0, 0)))] :
    Iter Try.prog 56 [.pointer (some ⟨b, 0, none⟩)] PgNN.enck ys J0 := by
  intro l J Jx hJ hy
  subst hJ
  refine spec_of Try.func56 rfl Try.ntmps56 rfl fun w0 F => ?_
  refine G.dup (pblk b (.cells #[.pointer (some ⟨m, 0, none⟩)] 52 (0, 0))) ?_
  -- (*ponder/book.Map[ponder/deps.number, *ponder/order.Set[ponder/deps.number]]).Keys$1
  repeat (first | refine g_endt ?_ | refine g_end ?_ | refine g_then ?_ | refine g_in_normal ?_ | refine g_then_ret ?_ | refine g_in_ret ?_ | refine g_then_exit ?_ | refine g_in_exit rfl ?_ | refine g_in_exit_ne (by decide) ?_ | refine g_seq ?_ | refine g_region ?_ | refine g_block ?_ | refine g_ret ?_ | refine g_return_n ?_ | refine g_exit ?_ | refine g_skip ?_)
  refine o_boxc #[.func (.yield l) #[] #[]] rfl rfl fun q => ?_
  first | refine g_endt ?_ | refine g_end ?_
  repeat (first | refine g_endt ?_ | refine g_end ?_ | refine g_then ?_ | refine g_in_normal ?_ | refine g_then_ret ?_ | refine g_in_ret ?_ | refine g_then_exit ?_ | refine g_in_exit rfl ?_ | refine g_in_exit_ne (by decide) ?_ | refine g_seq ?_ | refine g_region ?_ | refine g_block ?_ | refine g_ret ?_ | refine g_return_n ?_ | refine g_exit ?_ | refine g_skip ?_)
  first | refine o_load1 rfl rfl ?_ | refine o_loadE0 rfl (by assumption) rfl ?_ | refine o_loadE1 rfl (by assumption) rfl ?_
  refine o_peql rfl ?_
  first | refine g_endt ?_ | refine g_end ?_
  first | refine g_seq (g_cond_f rfl (by first | rfl | (simp; done) | (simp; omega) | (simp; assumption)) ?_) | refine g_cond_f rfl (by first | rfl | (simp; done) | (simp; omega) | (simp; assumption)) ?_
  refine openMNN m ys fun p => ?_
  repeat (first | refine g_endt ?_ | refine g_end ?_ | refine g_then ?_ | refine g_in_normal ?_ | refine g_then_ret ?_ | refine g_in_ret ?_ | refine g_then_exit ?_ | refine g_in_exit rfl ?_ | refine g_in_exit_ne (by decide) ?_ | refine g_seq ?_ | refine g_region ?_ | refine g_block ?_ | refine g_ret ?_ | refine g_return_n ?_ | refine g_exit ?_ | refine g_skip ?_)
  first | refine o_load1 rfl rfl ?_ | refine o_loadE0 rfl (by assumption) rfl ?_ | refine o_loadE1 rfl (by assumption) rfl ?_
  refine o_nil rfl ?_
  first | refine o_field rfl ?_ | refine o_fieldR rfl (by omega) ?_
  first | refine o_load1 rfl rfl ?_ | refine o_loadE0 rfl (by assumption) rfl ?_ | refine o_loadE1 rfl (by assumption) rfl ?_
  refine o_call (AllNN_spec p) rfl rfl ?_
  rintro _ _ ⟨b2, rfl, rfl⟩
  first | refine g_endt ?_ | refine g_end ?_
  repeat (first | refine g_endt ?_ | refine g_end ?_ | refine g_then ?_ | refine g_in_normal ?_ | refine g_then_ret ?_ | refine g_in_ret ?_ | refine g_then_exit ?_ | refine g_in_exit rfl ?_ | refine g_in_exit_ne (by decide) ?_ | refine g_seq ?_ | refine g_region ?_ | refine g_block ?_ | refine g_ret ?_ | refine g_return_n ?_ | refine g_exit ?_ | refine g_skip ?_)
  have hO : Ent (sl (SetANN p ys :: cellsB m #[.pointer (some ⟨p, 0, none⟩)] 81 :: M)) (sl (J [])) := MapANN_of m p ys
  refine g_range (ps := [11]) (lb := [.pointer (some ⟨b2, 0, none⟩)]) (enc := PgNN.enc') (xs := ys) rfl
    (fun pre => cellsB q #[.func (.yield l) #[] #[]] 61 :: pblk b2 (.cells #[.pointer (some ⟨p, 0, none⟩)] 76 (0, 0)) :: Jin (SetANN p ys :: cellsB m #[.pointer (some ⟨p, 0, none⟩)] 81 :: M) J pre)
    (fun c pre => pu (c = .ret) :: Jx pre)
    (fun K => All1NN_iter p b2 ys hl (K :: cellsB q #[.func (.yield l) #[] #[]] 61 :: pblk b2 (.cells #[.pointer (some ⟨p, 0, none⟩)] 76 (0, 0)) :: SetANN p ys :: cellsB m #[.pointer (some ⟨p, 0, none⟩)] 81 :: M))
    (fun _ => rfl) (tk := (inferInstance : Take _ (cellsB q #[.func (.yield l) #[] #[]] 61 :: pblk b2 (.cells #[.pointer (some ⟨p, 0, none⟩)] 76 (0, 0)) :: SetANN p ys :: cellsB m #[.pointer (some ⟨p, 0, none⟩)] 81 :: M) _)) ?_ ?_ ?_
  · intro w0 F l' r pre x hp
    refine G.ent (L' := cellsB q #[.func (.yield l) #[] #[]] 61 :: pblk b2 (.cells #[.pointer (some ⟨p, 0, none⟩)] 76 (0, 0)) :: J pre) ((Ent.refl _).star ((Ent.refl _).star (Jin_ent hO pre))) ?_
    repeat (first | refine g_endt ?_ | refine g_end ?_ | refine g_then ?_ | refine g_in_normal ?_ | refine g_then_ret ?_ | refine g_in_ret ?_ | refine g_then_exit ?_ | refine g_in_exit rfl ?_ | refine g_in_exit_ne (by decide) ?_ | refine g_seq ?_ | refine g_region ?_ | refine g_block ?_ | refine g_ret ?_ | refine g_return_n ?_ | refine g_exit ?_ | refine g_skip ?_)
    refine o_alloc fun d => ?_
    refine o_store (v := x.val) rfl rfl rfl rfl rfl ?_
    first | refine g_endt ?_ | refine g_end ?_
    refine G.norm d x.val.cells rfl ?_
    repeat (first | refine g_endt ?_ | refine g_end ?_ | refine g_then ?_ | refine g_in_normal ?_ | refine g_then_ret ?_ | refine g_in_ret ?_ | refine g_then_exit ?_ | refine g_in_exit rfl ?_ | refine g_in_exit_ne (by decide) ?_ | refine g_seq ?_ | refine g_region ?_ | refine g_block ?_ | refine g_ret ?_ | refine g_return_n ?_ | refine g_exit ?_ | refine g_skip ?_)
    refine g_begin ?_
    repeat (first | refine g_endt ?_ | refine g_end ?_ | refine g_then ?_ | refine g_in_normal ?_ | refine g_then_ret ?_ | refine g_in_ret ?_ | refine g_then_exit ?_ | refine g_in_exit rfl ?_ | refine g_in_exit_ne (by decide) ?_ | refine g_seq ?_ | refine g_region ?_ | refine g_block ?_ | refine g_ret ?_ | refine g_return_n ?_ | refine g_exit ?_ | refine g_skip ?_)
    first | refine o_load1 rfl rfl ?_ | refine o_loadE0 rfl (by assumption) rfl ?_ | refine o_loadE1 rfl (by assumption) rfl ?_
    first | refine o_field rfl ?_ | refine o_fieldR rfl (by omega) ?_
    refine o_load1 (v := x.k.val) rfl rfl ?_
    refine o_yield (hy pre x hp) rfl rfl ?_ ?_
    · refine o_not rfl ?_
      refine g_endt ?_
      first | refine g_seq (g_cond_f rfl (by first | rfl | (simp; done) | (simp; omega) | (simp; assumption)) ?_) | refine g_cond_f rfl (by first | rfl | (simp; done) | (simp; omega) | (simp; assumption)) ?_
      repeat (first | refine g_endt ?_ | refine g_end ?_ | refine g_then ?_ | refine g_in_normal ?_ | refine g_then_ret ?_ | refine g_in_ret ?_ | refine g_then_exit ?_ | refine g_in_exit rfl ?_ | refine g_in_exit_ne (by decide) ?_ | refine g_seq ?_ | refine g_region ?_ | refine g_block ?_ | refine g_ret ?_ | refine g_return_n ?_ | refine g_exit ?_ | refine g_skip ?_)
      exact g_next (tk := by rw [Jin_snoc]; infer_instance)
    · refine o_not rfl ?_
      refine g_endt ?_
      first | refine g_seq (g_cond_t rfl (by first | rfl | (simp; done) | (simp; omega) | (simp; assumption)) ?_) | refine g_cond_t rfl (by first | rfl | (simp; done) | (simp; omega) | (simp; assumption)) ?_
      repeat (first | refine g_endt ?_ | refine g_end ?_ | refine g_then ?_ | refine g_in_normal ?_ | refine g_then_ret ?_ | refine g_in_ret ?_ | refine g_then_exit ?_ | refine g_in_exit rfl ?_ | refine g_in_exit_ne (by decide) ?_ | refine g_seq ?_ | refine g_region ?_ | refine g_block ?_ | refine g_ret ?_ | refine g_return_n ?_ | refine g_exit ?_ | refine g_skip ?_)
      refine G.pu_in (q := Code.ret = Code.ret) rfl ?_
      exact g_leave_ret
  · intro D
    refine G.ent (L' := cellsB q #[.func (.yield l) #[] #[]] 61 :: pblk b2 (.cells #[.pointer (some ⟨p, 0, none⟩)] 76 (0, 0)) :: J ys) ((Ent.refl _).star ((Ent.refl _).star (Jin_ent hO ys))) ?_
    repeat (first | refine g_endt ?_ | refine g_end ?_ | refine g_then ?_ | refine g_in_normal ?_ | refine g_then_ret ?_ | refine g_in_ret ?_ | refine g_then_exit ?_ | refine g_in_exit rfl ?_ | refine g_in_exit_ne (by decide) ?_ | refine g_seq ?_ | refine g_region ?_ | refine g_block ?_ | refine g_ret ?_ | refine g_return_n ?_ | refine g_exit ?_ | refine g_skip ?_)
    exact ret0 (K := J ys) rfl (.inl rfl)
  · intro D c pre hp
    refine G.pu fun h => ?_
    subst h
    repeat (first | refine g_endt ?_ | refine g_end ?_ | refine g_then ?_ | refine g_in_normal ?_ | refine g_then_ret ?_ | refine g_in_ret ?_ | refine g_then_exit ?_ | refine g_in_exit rfl ?_ | refine g_in_exit_ne (by decide) ?_ | refine g_seq ?_ | refine g_region ?_ | refine g_block ?_ | refine g_ret ?_ | refine g_return_n ?_ | refine g_exit ?_ | refine g_skip ?_)
    exact ret0 (K := Jx pre) rfl (.inr ⟨pre, hp, rfl⟩)
theorem KeysMNN_spec (m : Nat) : Ctr Try.prog 37 [.pointer (some ⟨m, 0, none⟩)] []
    (fun v M => ∃ b, v = .func (.func 56) #[] #[.pointer (some ⟨b, 0, none⟩)] ∧ M = [pblk b (.cells #[.pointer (some ⟨m, 0, none⟩)] 52 (0, 0))]) := by
  refine spec_of Try.func37 rfl Try.ntmps37 rfl fun w0 F => ?_
  -- (*ponder/book.Map[ponder/deps.number, *ponder/order.Set[ponder/deps.number]]).Keys
  repeat (first | refine g_endt ?_ | refine g_end ?_ | refine g_then ?_ | refine g_in_normal ?_ | refine g_then_ret ?_ | refine g_in_ret ?_ | refine g_then_exit ?_ | refine g_in_exit rfl ?_ | refine g_in_exit_ne (by decide) ?_ | refine g_seq ?_ | refine g_region ?_ | refine g_block ?_ | refine g_ret ?_ | refine g_return_n ?_ | refine g_exit ?_ | refine g_skip ?_)
  refine o_boxc #[.pointer (some ⟨m, 0, none⟩)] rfl rfl fun b => G.freeze <| ?_
  refine o_assign ?_
  first | refine g_endt ?_ | refine g_end ?_
  repeat (first | refine g_endt ?_ | refine g_end ?_ | refine g_then ?_ | refine g_in_normal ?_ | refine g_then_ret ?_ | refine g_in_ret ?_ | refine g_then_exit ?_ | refine g_in_exit rfl ?_ | refine g_in_exit_ne (by decide) ?_ | refine g_seq ?_ | refine g_region ?_ | refine g_block ?_ | refine g_ret ?_ | refine g_return_n ?_ | refine g_exit ?_ | refine g_skip ?_)
  refine o_func ?_
  refine o_assign ?_
  first | refine g_endt ?_ | refine g_end ?_
  repeat (first | refine g_endt ?_ | refine g_end ?_ | refine g_then ?_ | refine g_in_normal ?_ | refine g_then_ret ?_ | refine g_in_ret ?_ | refine g_then_exit ?_ | refine g_in_exit rfl ?_ | refine g_in_exit_ne (by decide) ?_ | refine g_seq ?_ | refine g_region ?_ | refine g_block ?_ | refine g_ret ?_ | refine g_return_n ?_ | refine g_exit ?_ | refine g_skip ?_)
  exact ret1 rfl (resT rfl) ⟨b, rfl, rfl⟩
end Go.Proofs.Yteokgobeafnpoaa
/- An ordered set's functions, for one type of members: where one stands. -/
namespace Go.Proofs.Yteokgobeafnpoaa
open Go Go.Sl
attribute [local irreducible] Code.wpIn roundPost bodyPostM runL Ret Meets Begin

theorem PlaceNS_spec (p : Nat) (ys : List NumD) (x : NumD) (hs : Srt NumD.cmp ys) (hl : ys.length ≤ 1000000000) : Ctr Try.prog 53 [.pointer (some ⟨p, 0, none⟩), x.val] [SetANS p ys]
    (fun v M => ∃ (k : Nat) (there : Bool), v = .tuple #[.int .i64 (k : Int), .bool there] ∧ M = [SetANS p ys] ∧ FindR NumD.cmp ys x k there) := by
  refine spec_of Try.func53 rfl Try.ntmps53 rfl fun w0 F => ?_
  -- (*ponder/order.Set[ponder/deps.number]).Place
  repeat (first | refine g_endt ?_ | refine g_end ?_ | refine g_then ?_ | refine g_in_normal ?_ | refine g_then_ret ?_ | refine g_in_ret ?_ | refine g_then_exit ?_ | refine g_in_exit rfl ?_ | refine g_in_exit_ne (by decide) ?_ | refine g_seq ?_ | refine g_region ?_ | refine g_block ?_ | refine g_ret ?_ | refine g_return_n ?_ | refine g_exit ?_ | refine g_skip ?_)
  refine o_assign ?_
  refine o_assign ?_
  first | refine g_endt ?_ | refine g_end ?_
  repeat (first | refine g_endt ?_ | refine g_end ?_ | refine g_then ?_ | refine g_in_normal ?_ | refine g_then_ret ?_ | refine g_in_ret ?_ | refine g_then_exit ?_ | refine g_in_exit rfl ?_ | refine g_in_exit_ne (by decide) ?_ | refine g_seq ?_ | refine g_region ?_ | refine g_block ?_ | refine g_ret ?_ | refine g_return_n ?_ | refine g_exit ?_ | refine g_skip ?_)
  refine o_move ?_
  refine o_peql rfl ?_
  first | refine g_endt ?_ | refine g_end ?_
  first | refine g_seq (g_cond_f rfl (by first | rfl | (simp; done) | (simp; omega) | (simp; assumption)) ?_) | refine g_cond_f rfl (by first | rfl | (simp; done) | (simp; omega) | (simp; assumption)) ?_
  repeat (first | refine g_endt ?_ | refine g_end ?_ | refine g_then ?_ | refine g_in_normal ?_ | refine g_then_ret ?_ | refine g_in_ret ?_ | refine g_then_exit ?_ | refine g_in_exit rfl ?_ | refine g_in_exit_ne (by decide) ?_ | refine g_seq ?_ | refine g_region ?_ | refine g_block ?_ | refine g_ret ?_ | refine g_return_n ?_ | refine g_exit ?_ | refine g_skip ?_)
  refine o_move ?_
  refine o_move ?_
  refine o_call (findNS_spec p ys x hs hl) rfl rfl ?_
  rintro _ _ ⟨k, there, rfl, rfl, hk⟩
  refine o_extract rfl rfl ?_
  refine o_extract rfl rfl ?_
  refine o_assign ?_
  refine o_assign ?_
  first | refine g_endt ?_ | refine g_end ?_
  repeat (first | refine g_endt ?_ | refine g_end ?_ | refine g_then ?_ | refine g_in_normal ?_ | refine g_then_ret ?_ | refine g_in_ret ?_ | refine g_then_exit ?_ | refine g_in_exit rfl ?_ | refine g_in_exit_ne (by decide) ?_ | refine g_seq ?_ | refine g_region ?_ | refine g_block ?_ | refine g_ret ?_ | refine g_return_n ?_ | refine g_exit ?_ | refine g_skip ?_)
  exact ret2 (K := [SetANS p ys]) rfl (resT rfl) (resT rfl) ⟨k, there, rfl, rfl, hk⟩
end Go.Proofs.Yteokgobeafnpoaa
/- A set of its own, for one type of members. -/
namespace Go.Proofs.Yteokgobeafnpoaa
open Go Go.Sl
attribute [local irreducible] Code.wpIn roundPost bodyPostM runL Ret Meets Begin

/-- A set of its own, its list owned. -/
def OwnNS (p : Nat) (ys : List NumD) : SProp := ex fun r : Option Addr × Nat => sl [cellsB p #[.slice r.1 ys.length r.2, .bool false] 87, osl 54 NumD.enc 1 r.1 r.2 ys]
section
variable {w0 : World} {A : SProp} {L M : List SProp} {Φ : World → Prop}
theorem openONS (p : Nat) (ys : List NumD) [tk : Take1 L (OwnNS p ys) M] (h : ∀ S c, G w0 A (cellsB p #[.slice S ys.length c, .bool false] 87 :: osl 54 NumD.enc 1 S c ys :: M) Φ) : G w0 A L Φ :=
  G.perm tk.perm (G.ex fun ⟨S, c⟩ => G.open_sl (h S c))
theorem shutONS (p : Nat) (ys : List NumD) (S : Option Addr) (c : Nat) {n : Nat} (hn : ys.length = n) [tk : Take L [cellsB p #[.slice S n c, .bool false] 87, osl 54 NumD.enc 1 S c ys] M] (h : G w0 A (OwnNS p ys :: M) Φ) : G w0 A L Φ := by
  subst hn
  exact G.perm tk.perm (G.ent ((sl_append_to _ M).trans (Ent.star (show Ent _ (OwnNS p ys) from fun _ _ x => ⟨(S, c), x⟩) (Ent.refl _))) h)
end
end Go.Proofs.Yteokgobeafnpoaa
/- What an ordered set has in common with another one, for one type of members. -/
namespace Go.Proofs.Yteokgobeafnpoaa
open Go Go.Sl
attribute [local irreducible] Code.wpIn roundPost bodyPostM runL Ret Meets Begin

theorem MeetNS_spec (p q : Nat) (ys zs : List NumD) (hz : Srt NumD.cmp zs) (hl : ys.length ≤ 100000) (hl2 : zs.length ≤ 100000) : Ctr Try.prog 33 [.pointer (some ⟨p, 0, none⟩), .pointer (some ⟨q, 0, none⟩)] [SetANS p ys, SetANS q zs]
    (fun v M => ∃ r, v = .pointer (some ⟨r, 0, none⟩) ∧ M = [SetANS r (ys.filter fun y => hasC NumD.cmp zs y), SetANS p ys, SetANS q zs]) := by
  refine spec_of Try.func33 rfl Try.ntmps33 rfl fun w0 F => ?_
  -- ponder/order.Meet[ponder/deps.number]
  repeat (first | refine g_endt ?_ | refine g_end ?_ | refine g_then ?_ | refine g_in_normal ?_ | refine g_then_ret ?_ | refine g_in_ret ?_ | refine g_then_exit ?_ | refine g_in_exit rfl ?_ | refine g_in_exit_ne (by decide) ?_ | refine g_seq ?_ | refine g_region ?_ | refine g_block ?_ | refine g_ret ?_ | refine g_return_n ?_ | refine g_exit ?_ | refine g_skip ?_)
  refine o_boxc #[.pointer (some ⟨q, 0, none⟩)] rfl rfl fun bq => ?_
  refine o_assign ?_
  first | refine g_endt ?_ | refine g_end ?_
  repeat (first | refine g_endt ?_ | refine g_end ?_ | refine g_then ?_ | refine g_in_normal ?_ | refine g_then_ret ?_ | refine g_in_ret ?_ | refine g_then_exit ?_ | refine g_in_exit rfl ?_ | refine g_in_exit_ne (by decide) ?_ | refine g_seq ?_ | refine g_region ?_ | refine g_block ?_ | refine g_ret ?_ | refine g_return_n ?_ | refine g_exit ?_ | refine g_skip ?_)
  refine o_build (.agg #[.slice none 0 0, .bool false]) (fun w => by kernel_rfl) ?_
  refine o_boxc #[.slice none 0 0, .bool false] rfl rfl fun r => ?_
  refine o_alloc fun br => ?_
  refine o_store (v := .pointer (some ⟨r, 0, none⟩)) rfl rfl rfl rfl rfl ?_
  first | refine g_endt ?_ | refine g_end ?_
  refine G.norm br #[.pointer (some ⟨r, 0, none⟩)] rfl ?_
  repeat (first | refine g_endt ?_ | refine g_end ?_ | refine g_then ?_ | refine g_in_normal ?_ | refine g_then_ret ?_ | refine g_in_ret ?_ | refine g_then_exit ?_ | refine g_in_exit rfl ?_ | refine g_in_exit_ne (by decide) ?_ | refine g_seq ?_ | refine g_region ?_ | refine g_block ?_ | refine g_ret ?_ | refine g_return_n ?_ | refine g_exit ?_ | refine g_skip ?_)
  refine o_move ?_
  refine o_call (AllNS_spec p) rfl rfl ?_
  rintro _ _ ⟨b2, rfl, rfl⟩
  first | refine g_endt ?_ | refine g_end ?_
  refine G.nil_slice (α := NumD) 54 NumD.enc 1 ?_
  refine shutONS r (([] : List NumD).filter fun y => hasC NumD.cmp zs y) none 0 (n := 0) rfl (tk := (inferInstance : Take _ [cellsB r #[.slice none 0 0, .bool false] 87, osl 54 NumD.enc 1 none 0 []] _)) ?_
  repeat (first | refine g_endt ?_ | refine g_end ?_ | refine g_then ?_ | refine g_in_normal ?_ | refine g_then_ret ?_ | refine g_in_ret ?_ | refine g_then_exit ?_ | refine g_in_exit rfl ?_ | refine g_in_exit_ne (by decide) ?_ | refine g_seq ?_ | refine g_region ?_ | refine g_block ?_ | refine g_ret ?_ | refine g_return_n ?_ | refine g_exit ?_ | refine g_skip ?_)
  refine g_range (ps := [13]) (lb := [.pointer (some ⟨b2, 0, none⟩)]) (enc := NumD.enc') (xs := ys) rfl
    (fun pre => [OwnNS r (pre.filter fun y => hasC NumD.cmp zs y), SetANS p ys, SetANS q zs, cellsB bq #[.pointer (some ⟨q, 0, none⟩)] 55, cellsB br #[.pointer (some ⟨r, 0, none⟩)] 55, pblk b2 (.cells #[.pointer (some ⟨p, 0, none⟩)] 55 (0, 0))]) (fun _ _ => [pu False])
    (fun K => All1NS_iter p b2 ys (by omega) _) (fun _ => rfl) ?_ ?_ ?_
  · intro w0 F l rr pre x hp
    have hlen : pre.length < ys.length := by
      obtain ⟨t, ht⟩ := hp
      have := congrArg List.length ht
      simp at this
      omega
    have hfl : (pre.filter fun y => hasC NumD.cmp zs y).length ≤ pre.length := List.length_filter_le _ _
    repeat (first | refine g_endt ?_ | refine g_end ?_ | refine g_then ?_ | refine g_in_normal ?_ | refine g_then_ret ?_ | refine g_in_ret ?_ | refine g_then_exit ?_ | refine g_in_exit rfl ?_ | refine g_in_exit_ne (by decide) ?_ | refine g_seq ?_ | refine g_region ?_ | refine g_block ?_ | refine g_ret ?_ | refine g_return_n ?_ | refine g_exit ?_ | refine g_skip ?_)
    refine o_assign ?_
    first | refine g_endt ?_ | refine g_end ?_
    repeat (first | refine g_endt ?_ | refine g_end ?_ | refine g_then ?_ | refine g_in_normal ?_ | refine g_then_ret ?_ | refine g_in_ret ?_ | refine g_then_exit ?_ | refine g_in_exit rfl ?_ | refine g_in_exit_ne (by decide) ?_ | refine g_seq ?_ | refine g_region ?_ | refine g_block ?_ | refine g_ret ?_ | refine g_return_n ?_ | refine g_exit ?_ | refine g_skip ?_)
    refine g_begin ?_
    repeat (first | refine g_endt ?_ | refine g_end ?_ | refine g_then ?_ | refine g_in_normal ?_ | refine g_then_ret ?_ | refine g_in_ret ?_ | refine g_then_exit ?_ | refine g_in_exit rfl ?_ | refine g_in_exit_ne (by decide) ?_ | refine g_seq ?_ | refine g_region ?_ | refine g_block ?_ | refine g_ret ?_ | refine g_return_n ?_ | refine g_exit ?_ | refine g_skip ?_)
    first | refine o_load1 rfl rfl ?_ | refine o_loadE0 rfl (by assumption) rfl ?_ | refine o_loadE1 rfl (by assumption) rfl ?_
    refine o_move ?_
    refine o_call (PlaceNS_spec q zs x hz (by omega)) rfl rfl ?_
    rintro _ _ ⟨k, there, rfl, rfl, hk⟩
    refine o_move ?_
    refine o_extract rfl rfl ?_
    refine o_extract rfl rfl ?_
    refine o_assign ?_
    refine o_assign ?_
    first | refine g_endt ?_ | refine g_end ?_
    have hh := hasC_of hk
    repeat (first | refine g_endt ?_ | refine g_end ?_ | refine g_then ?_ | refine g_in_normal ?_ | refine g_then_ret ?_ | refine g_in_ret ?_ | refine g_then_exit ?_ | refine g_in_exit rfl ?_ | refine g_in_exit_ne (by decide) ?_ | refine g_seq ?_ | refine g_region ?_ | refine g_block ?_ | refine g_ret ?_ | refine g_return_n ?_ | refine g_exit ?_ | refine g_skip ?_)
    refine o_move ?_
    first | refine g_endt ?_ | refine g_end ?_
    cases there with
    | true =>
      first | refine g_seq (g_cond_t rfl (by first | rfl | (simp; done) | (simp; omega) | (simp; assumption)) ?_) | refine g_cond_t rfl (by first | rfl | (simp; done) | (simp; omega) | (simp; assumption)) ?_
      have e : (pre ++ [x]).filter (fun y => hasC NumD.cmp zs y) = pre.filter (fun y => hasC NumD.cmp zs y) ++ [x] := by rw [List.filter_append]; simp [hh]
      generalize pre.filter (fun y => hasC NumD.cmp zs y) = us at e hfl ⊢
      refine openONS r us fun S d => ?_
      repeat (first | refine g_endt ?_ | refine g_end ?_ | refine g_then ?_ | refine g_in_normal ?_ | refine g_then_ret ?_ | refine g_in_ret ?_ | refine g_then_exit ?_ | refine g_in_exit rfl ?_ | refine g_in_exit_ne (by decide) ?_ | refine g_seq ?_ | refine g_region ?_ | refine g_block ?_ | refine g_ret ?_ | refine g_return_n ?_ | refine g_exit ?_ | refine g_skip ?_)
      refine g_draw [6,7,10] [0,1,2,3,4,5,6,7,8,9,10] [cellsB br #[.pointer (some ⟨r, 0, none⟩)] 55, cellsB r #[.slice S us.length d, .bool false] 87] mixed rfl ?_
      first | refine ob_q rfl rfl ⟨_, fun X Q h => o_load1 rfl rfl (g_end (h _ _ ⟨rfl, rfl⟩)), ?_⟩ | refine ob_q rfl rfl ⟨_, fun X Q h => o_loadE0 rfl (by assumption) rfl (g_end (h _ _ ⟨rfl, rfl⟩)), ?_⟩ | refine ob_q rfl rfl ⟨_, fun X Q h => o_loadE1 rfl (by assumption) rfl (g_end (h _ _ ⟨rfl, rfl⟩)), ?_⟩
      first | refine ob_q rfl rfl ⟨_, fun X Q h => o_load1 rfl rfl (g_end (h _ _ ⟨rfl, rfl⟩)), ?_⟩ | refine ob_q rfl rfl ⟨_, fun X Q h => o_loadE0 rfl (by assumption) rfl (g_end (h _ _ ⟨rfl, rfl⟩)), ?_⟩ | refine ob_q rfl rfl ⟨_, fun X Q h => o_loadE1 rfl (by assumption) rfl (g_end (h _ _ ⟨rfl, rfl⟩)), ?_⟩
      refine ob_q rfl rfl ⟨_, fun X Q h => o_nil rfl (g_end (h _ _ ⟨rfl, rfl⟩)), ?_⟩
      first | refine ob_q rfl rfl ⟨_, fun X Q h => o_field rfl (g_end (h _ _ ⟨rfl, rfl⟩)), ?_⟩ | refine ob_q rfl rfl ⟨_, fun X Q h => o_fieldR rfl (by omega) (g_end (h _ _ ⟨rfl, rfl⟩)), ?_⟩
      refine ob_q rfl rfl ⟨_, fun X Q h => o_load1 (v := .slice S us.length d) rfl rfl (g_end (h _ _ ⟨rfl, rfl⟩)), ?_⟩
      refine ob_q rfl rfl ⟨_, fun X Q h => o_move (g_end (h _ _ ⟨rfl, rfl⟩)), ?_⟩
      refine ob_l rfl rfl fun Qz hz => o_litP (e := 54) NumD.enc [x] x.val.cells (fun w => by kernel_rfl) (by simp [NumD.enc]) (by simp [maxLen]) fun _ => ?_
      refine g_end (hz _ _ ⟨_, ob_fin, ?_⟩)
      clear hz Qz
      refine ob_l rfl rfl fun Qz hz => o_append (xs := us) (ys := [x]) (by first | rfl | (simp only [List.length_map, List.length_take, List.length_append]; first | rfl | (congr 1; omega))) rfl rfl rfl rfl (fun _ => .inr trivial) (by simp [maxLen]; omega) (by simp; omega) fun S2 d2 => ?_
      refine g_end (hz _ _ ⟨_, ob_fin, ?_⟩)
      clear hz Qz
      refine ob_q rfl rfl ⟨_, fun X Q h => o_nil rfl (g_end (h _ _ ⟨rfl, rfl⟩)), ?_⟩
      first | refine ob_q rfl rfl ⟨_, fun X Q h => o_field rfl (g_end (h _ _ ⟨rfl, rfl⟩)), ?_⟩ | refine ob_q rfl rfl ⟨_, fun X Q h => o_fieldR rfl (by omega) (g_end (h _ _ ⟨rfl, rfl⟩)), ?_⟩
      refine ob_s [cellsB br #[.pointer (some ⟨r, 0, none⟩)] 55] rfl rfl rfl fun Qz hz => o_store (v := .slice S2 (us.length + 1) d2) rfl rfl rfl rfl rfl ?_
      refine g_end (hz _ _ ⟨_, ob_fin, ?_⟩)
      clear hz Qz
      refine ob_nil ?_
      refine G.norm r #[.slice S2 (us.length + 1) d2, .bool false] rfl ?_
      rw [← e]
      refine shutONS r ((pre ++ [x]).filter fun y => hasC NumD.cmp zs y) S2 d2 (n := us.length + 1) (by rw [e]; simp) ?_
      repeat (first | refine g_endt ?_ | refine g_end ?_ | refine g_then ?_ | refine g_in_normal ?_ | refine g_then_ret ?_ | refine g_in_ret ?_ | refine g_then_exit ?_ | refine g_in_exit rfl ?_ | refine g_in_exit_ne (by decide) ?_ | refine g_seq ?_ | refine g_region ?_ | refine g_block ?_ | refine g_ret ?_ | refine g_return_n ?_ | refine g_exit ?_ | refine g_skip ?_)
      exact g_next
    | false =>
      first | refine g_seq (g_cond_f rfl (by first | rfl | (simp; done) | (simp; omega) | (simp; assumption)) ?_) | refine g_cond_f rfl (by first | rfl | (simp; done) | (simp; omega) | (simp; assumption)) ?_
      repeat (first | refine g_endt ?_ | refine g_end ?_ | refine g_then ?_ | refine g_in_normal ?_ | refine g_then_ret ?_ | refine g_in_ret ?_ | refine g_then_exit ?_ | refine g_in_exit rfl ?_ | refine g_in_exit_ne (by decide) ?_ | refine g_seq ?_ | refine g_region ?_ | refine g_block ?_ | refine g_ret ?_ | refine g_return_n ?_ | refine g_exit ?_ | refine g_skip ?_)
      have e : (pre ++ [x]).filter (fun y => hasC NumD.cmp zs y) = pre.filter fun y => hasC NumD.cmp zs y := by rw [List.filter_append]; simp [hh]
      exact g_next (tk := by rw [e]; infer_instance)
  · intro D
    refine openONS r (ys.filter fun y => hasC NumD.cmp zs y) fun S d => ?_
    refine shutFNS r (ys.filter fun y => hasC NumD.cmp zs y) S d rfl ?_
    repeat (first | refine g_endt ?_ | refine g_end ?_ | refine g_then ?_ | refine g_in_normal ?_ | refine g_then_ret ?_ | refine g_in_ret ?_ | refine g_then_exit ?_ | refine g_in_exit rfl ?_ | refine g_in_exit_ne (by decide) ?_ | refine g_seq ?_ | refine g_region ?_ | refine g_block ?_ | refine g_ret ?_ | refine g_return_n ?_ | refine g_exit ?_ | refine g_skip ?_)
    refine o_load1 (v := .pointer (some ⟨r, 0, none⟩)) rfl rfl ?_
    refine o_assign ?_
    first | refine g_endt ?_ | refine g_end ?_
    repeat (first | refine g_endt ?_ | refine g_end ?_ | refine g_then ?_ | refine g_in_normal ?_ | refine g_then_ret ?_ | refine g_in_ret ?_ | refine g_then_exit ?_ | refine g_in_exit rfl ?_ | refine g_in_exit_ne (by decide) ?_ | refine g_seq ?_ | refine g_region ?_ | refine g_block ?_ | refine g_ret ?_ | refine g_return_n ?_ | refine g_exit ?_ | refine g_skip ?_)
    exact ret1 rfl (resT rfl) ⟨r, rfl, rfl⟩
  · intro D c pre hp
    exact G.pu fun h => h.elim
end Go.Proofs.Yteokgobeafnpoaa
/- What goals depend on: told by levels, the levels told, hits. -/
namespace Go.Proofs.Yteokgobeafnpoaa
open Go Go.Sl
attribute [local irreducible] Exit.then Exit.inBlock Code.wpIn roundPost bodyPostM runL Ret Meets MeetsD Begin

/-! ### Plain -/
def lvls : List Int := [2, 3, 4, 5, 6, 7, 8]
def keysT (T : DpT) : List Int := lvls.filter fun k => !(T k).isEmpty
theorem mem_lvls {k : Int} : k ∈ lvls ↔ 2 ≤ k ∧ k ≤ 8 := by simp [lvls]; omega
theorem srt_pw {α : Type} {f : α → α → Int} {l : List α} (h : l.Pairwise fun a b => f a b < 0) : Srt f l := fun i j a b hij ha hb => by
  obtain ⟨hi, rfl⟩ := List.getElem?_eq_some_iff.1 ha
  obtain ⟨hj, rfl⟩ := List.getElem?_eq_some_iff.1 hb
  exact List.pairwise_iff_getElem.1 h i j hi hj hij
theorem srt_map {α β : Type} {f : β → β → Int} {g : α → β} {l : List α} (h : Srt (fun a b => f (g a) (g b)) l) : Srt f (l.map g) := fun i j a b hij ha hb => by
  rw [List.getElem?_map] at ha hb
  obtain ⟨x, hx, rfl⟩ := Option.map_eq_some_iff.1 ha
  obtain ⟨y, hy, rfl⟩ := Option.map_eq_some_iff.1 hb
  exact h i j x y hij hx hy
theorem DpsI.mem {zs : List PgNN} {T : DpT} (h : DpsI zs T) {k : Int} : (∃ p ∈ zs, p.k = ⟨k⟩) ↔ T k ≠ [] := by
  rw [← h.has k]
  unfold hasC
  rw [List.any_eq_true]
  constructor
  · rintro ⟨p, hp, e⟩; exact ⟨p, hp, decide_eq_true (PgNN.cmp_iff.2 e)⟩
  · rintro ⟨p, hp, e⟩; exact ⟨p, hp, PgNN.cmp_iff.1 (of_decide_eq_true e)⟩
theorem DpsI.keys {zs : List PgNN} {T : DpT} (h : DpsI zs T) : zs.map (fun p => p.k.n) = keysT T := by
  have h1 : Srt NumD.cmp (zs.map PgNN.k) := srt_map h.srt
  have h2 : Srt NumD.cmp ((keysT T).map NumD.mk) := by
    have : Srt NumD.cmp ((lvls.map NumD.mk).filter fun k => !(T k.n).isEmpty) := Srt.filter _ (srt_pw (by decide))
    rw [List.filter_map] at this
    exact this
  have h3 : zs.map PgNN.k = (keysT T).map NumD.mk := h1.ext linNum h2 fun z => by
    have e1 : z ∈ zs.map PgNN.k ↔ T z.n ≠ [] := by
      rw [← h.mem]
      simp only [List.mem_map]
    rw [e1]
    simp only [List.mem_map, keysT, List.mem_filter, mem_lvls, Bool.not_eq_true', List.isEmpty_eq_false_iff]
    constructor
    · intro h4; exact ⟨z.n, ⟨h.rng _ h4, h4⟩, rfl⟩
    · rintro ⟨k, ⟨_, h4⟩, rfl⟩; exact h4
  have h4 := congrArg (List.map NumD.n) h3
  rw [List.map_map, List.map_map] at h4
  simpa [Function.comp_def] using h4
def hitT (T : DpT) (out : List NumD) : Int := (lvls.find? fun k => (T k).any (hasC NumD.cmp out)).getD 0
theorem DpsI.find {zs : List PgNN} {T : DpT} (h : DpsI zs T) (q : List NumD → Bool) (hq : q [] = false) : (zs.map fun p => p.k.n).find? (fun k => q (T k)) = lvls.find? fun k => q (T k) := by
  rw [h.keys, keysT, List.find?_filter]
  congr 1
  funext k
  cases e : T k with
  | nil => simp [hq]
  | cons a l => simp
theorem DpsI.hit {zs pre : List PgNN} {x : PgNN} {T : DpT} (h : DpsI zs T) (out : List NumD) (hp : (pre ++ [x]) <+: zs) (hn : ∀ p ∈ pre, (T p.k.n).any (hasC NumD.cmp out) = false) (hx : (T x.k.n).any (hasC NumD.cmp out) = true) : hitT T out = x.k.n := by
  unfold hitT
  rw [← h.find (fun l => l.any (hasC NumD.cmp out)) rfl]
  obtain ⟨t, rfl⟩ := hp
  rw [List.append_assoc, List.map_append, List.find?_append, List.find?_eq_none.2 (by
    intro k hk
    obtain ⟨p, hp, rfl⟩ := List.mem_map.1 hk
    simpa using hn p hp)]
  simp [hx]
theorem DpsI.nohit {zs : List PgNN} {T : DpT} (h : DpsI zs T) (out : List NumD) (hn : ∀ p ∈ zs, (T p.k.n).any (hasC NumD.cmp out) = false) : hitT T out = 0 := by
  unfold hitT
  rw [← h.find (fun l => l.any (hasC NumD.cmp out)) rfl, List.find?_eq_none.2 (by
    intro k hk
    obtain ⟨p, hp, rfl⟩ := List.mem_map.1 hk
    simpa using hn p hp)]
  rfl

/-! ### Told -/
abbrev pD (b d : Nat) : SProp := pblk b (.cells #[.pointer (some ⟨d, 0, none⟩)] 24 (0, 0))
abbrev pK (b : Nat) (k : Int) : SProp := pblk b (.cells #[.int .i64 k] 3 (0, 0))
abbrev pSn (b p : Nat) : SProp := pblk b (.cells #[.pointer (some ⟨p, 0, none⟩)] 55 (0, 0))
abbrev pMn (b m : Nat) : SProp := pblk b (.cells #[.pointer (some ⟨m, 0, none⟩)] 52 (0, 0))
abbrev cY (q l : Nat) : SProp := cellsB q #[.func (.yield l) #[] #[]] 64
theorem DepP_of (d : Nat) (T : DpT) (m : Nat) (zs : List PgNN) (hi : DpsI zs T) {L M : List SProp} [tk : Take1 L (DepP d T) M] : Ent (sl ([dpC d m, MapANN m zs, bigS zs (cellD T)] ++ M)) (sl L) := by
  refine Ent.trans ?_ (sl_perm tk.perm.symm)
  refine (sl_append_to [dpC d m, MapANN m zs, bigS zs (cellD T)] M).trans (Ent.star ?_ (Ent.refl _))
  exact fun B h x => ⟨(m, zs), hnil, h, (Dj.nil _).symm, .nil _, .refl _, hi, x⟩
theorem bigS_back {α : Type} {zs us : List α} {f : α → SProp} {y : α} {M : List SProp} {A C : SProp} (hp : zs.Perm (y :: us)) : Ent (sl ([f y, bigS us f, A, C] ++ M)) (sl ([A, C, bigS zs f] ++ M)) := by
  have h1 : Ent (star (f y) (bigS us f)) (bigS zs f) := bigS_perm hp.symm f
  refine (Ent.assoc' (f y) (bigS us f) (sl (A :: C :: M))).trans ?_
  refine (h1.star (Ent.refl _)).trans ?_
  exact sl_perm (L := bigS zs f :: A :: C :: M) (M := A :: C :: bigS zs f :: M) ((List.Perm.swap _ _ _).trans ((List.Perm.swap _ _ _).cons _))
theorem num_pre {l : List NumD} {pre : List NumD} {x : NumD} (h : (pre ++ [x]) <+: l) : (pre.map NumD.n ++ [x.n]) <+: l.map NumD.n := by
  obtain ⟨t, rfl⟩ := h
  exact ⟨t.map NumD.n, by simp⟩
theorem num_pre' {l : List NumD} {pre : List NumD} (h : pre <+: l) : pre.map NumD.n <+: l.map NumD.n := by
  obtain ⟨t, rfl⟩ := h
  exact ⟨t.map NumD.n, by simp⟩
set_option maxHeartbeats 2000000 in
theorem Of1Dp_iter (d b1 b2 : Nat) (T : DpT) (k : Int) (hb : ∀ j, (T j).length ≤ 1000000) (J0 : List SProp) {M : List SProp} [tk : Take1 J0 (DepP d T) M] [HasP J0 (pD b1 d)] [HasP J0 (pK b2 k)] :
    Iter Try.prog 34 [.pointer (some ⟨b1, 0, none⟩), .pointer (some ⟨b2, 0, none⟩)] encVI ((T k).map NumD.n) J0 := by
  intro l J Jx hJ hy
  subst hJ
  refine spec_of Try.func34 rfl Try.ntmps34 rfl fun w0 F => ?_
  -- hide
  -- (*ponder/deps.Deps).Of$1
  refine G.dup (pD b1 d) ?_
  refine G.dup (pK b2 k) ?_
  repeat (first | refine g_endt ?_ | refine g_end ?_ | refine g_then ?_ | refine g_in_normal ?_ | refine g_then_ret ?_ | refine g_in_ret ?_ | refine g_then_exit ?_ | refine g_in_exit rfl ?_ | refine g_in_exit_ne (by decide) ?_ | refine g_seq ?_ | refine g_region ?_ | refine g_block ?_ | refine g_ret ?_ | refine g_return_n ?_ | refine g_exit ?_ | refine g_skip ?_)
  refine g_hideR fun Q_ hQ_ => ?_
  refine o_boxc #[.func (.yield l) #[] #[]] rfl rfl fun q => ?_
  refine g_end (G.imp (hQ_ .normal _) ?_)
  clear hQ_ Q_
  try refine g_then ?_
  refine openDp d T fun m zs hi => ?_
  have hzl := hi.len
  have hO0 : Ent (sl ([dpC d m, MapANN m zs, bigS zs (cellD T)] ++ M)) (sl (J [])) := DepP_of d T m zs hi
  obtain ⟨o, ho⟩ : ∃ o, getM PgNN.cmp zs ⟨⟨k⟩, none⟩ = o := ⟨_, rfl⟩
  repeat (first | refine g_endt ?_ | refine g_end ?_ | refine g_then ?_ | refine g_in_normal ?_ | refine g_then_ret ?_ | refine g_in_ret ?_ | refine g_then_exit ?_ | refine g_in_exit rfl ?_ | refine g_in_exit_ne (by decide) ?_ | refine g_seq ?_ | refine g_region ?_ | refine g_block ?_ | refine g_ret ?_ | refine g_return_n ?_ | refine g_exit ?_ | refine g_skip ?_)
  refine g_hide fun Q_ hQ_ => ?_
  refine g_draw [5] [0,1,2,3,4,5,6,7,8,9,10] [pK b2 k, pD b1 d, dpC d m] mixed rfl ?_
  refine ob_q rfl rfl ⟨_, fun X Q h => o_load1 (v := .pointer (some ⟨d, 0, none⟩)) rfl rfl (g_end (h _ _ ⟨rfl, rfl⟩)), ?_⟩
  refine ob_q rfl rfl ⟨_, fun X Q h => o_nil rfl (g_end (h _ _ ⟨rfl, rfl⟩)), ?_⟩
  first | refine ob_q rfl rfl ⟨_, fun X Q h => o_field rfl (g_end (h _ _ ⟨rfl, rfl⟩)), ?_⟩ | refine ob_q rfl rfl ⟨_, fun X Q h => o_fieldR rfl (by omega) (g_end (h _ _ ⟨rfl, rfl⟩)), ?_⟩
  refine ob_q rfl rfl ⟨_, fun X Q h => o_load1 (v := .pointer (some ⟨m, 0, none⟩)) rfl rfl (g_end (h _ _ ⟨rfl, rfl⟩)), ?_⟩
  refine ob_q rfl rfl ⟨_, fun X Q h => o_load1 (v := .int .i64 k) rfl rfl (g_end (h _ _ ⟨rfl, rfl⟩)), ?_⟩
  refine ob_l rfl rfl fun Qz hz => o_call (GetNMNN_spec m zs ⟨k⟩ hi.srt (by omega) ho) rfl rfl ?_
  rintro _ _ ⟨rfl, rfl⟩
  refine g_end (hz _ _ ⟨_, ob_fin, ?_⟩)
  clear hz Qz
  refine ob_q rfl rfl ⟨_, fun X Q h => o_move (g_end (h _ _ ⟨rfl, rfl⟩)), ?_⟩
  refine ob_q rfl rfl ⟨_, fun X Q h => o_extract rfl rfl (g_end (h _ _ ⟨rfl, rfl⟩)), ?_⟩
  refine ob_q rfl rfl ⟨_, fun X Q h => o_extract rfl rfl (g_end (h _ _ ⟨rfl, rfl⟩)), ?_⟩
  refine ob_q rfl rfl ⟨_, fun X Q h => o_assign (g_end (h _ _ ⟨rfl, rfl⟩)), ?_⟩
  refine ob_q rfl rfl ⟨_, fun X Q h => o_assign (g_end (h _ _ ⟨rfl, rfl⟩)), ?_⟩
  refine ob_nil ?_
  refine G.imp (hQ_ .normal _) ?_
  clear hQ_ Q_
  try refine g_then ?_
  cases o with
  | none =>
    have hTk : T k = [] := by
      by_cases e : T k = []
      · exact e
      · have h1 := (hi.has k).2 e
        rw [← getM_isSome, ho] at h1; cases h1
    repeat (first | refine g_endt ?_ | refine g_end ?_ | refine g_then ?_ | refine g_in_normal ?_ | refine g_then_ret ?_ | refine g_in_ret ?_ | refine g_then_exit ?_ | refine g_in_exit rfl ?_ | refine g_in_exit_ne (by decide) ?_ | refine g_seq ?_ | refine g_region ?_ | refine g_block ?_ | refine g_ret ?_ | refine g_return_n ?_ | refine g_exit ?_ | refine g_skip ?_)
    refine g_hideR fun Q_ hQ_ => ?_
    refine o_move ?_
    refine o_not rfl ?_
    refine g_end (G.imp (hQ_ .normal _) ?_)
    clear hQ_ Q_
    try refine g_then ?_
    first | refine g_seq (g_cond_t rfl (by first | rfl | (simp; done) | (simp; omega) | (simp; assumption)) ?_) | refine g_cond_t rfl (by first | rfl | (simp; done) | (simp; omega) | (simp; assumption)) ?_
    rw [hTk]
    refine G.forget ([dpC d m, MapANN m zs, bigS zs (cellD T)] ++ M) ?_
    refine G.ent hO0 ?_
    repeat (first | refine g_endt ?_ | refine g_end ?_ | refine g_then ?_ | refine g_in_normal ?_ | refine g_then_ret ?_ | refine g_in_ret ?_ | refine g_then_exit ?_ | refine g_in_exit rfl ?_ | refine g_in_exit_ne (by decide) ?_ | refine g_seq ?_ | refine g_region ?_ | refine g_block ?_ | refine g_ret ?_ | refine g_return_n ?_ | refine g_exit ?_ | refine g_skip ?_)
    exact ret0 (K := J []) rfl (.inl rfl)
  | some p =>
    obtain ⟨b, us, rfl, hperm, hne, _⟩ := hi.get ho
    repeat (first | refine g_endt ?_ | refine g_end ?_ | refine g_then ?_ | refine g_in_normal ?_ | refine g_then_ret ?_ | refine g_in_ret ?_ | refine g_then_exit ?_ | refine g_in_exit rfl ?_ | refine g_in_exit_ne (by decide) ?_ | refine g_seq ?_ | refine g_region ?_ | refine g_block ?_ | refine g_ret ?_ | refine g_return_n ?_ | refine g_exit ?_ | refine g_skip ?_)
    refine g_hideR fun Q_ hQ_ => ?_
    refine o_move ?_
    refine o_not rfl ?_
    refine g_end (G.imp (hQ_ .normal _) ?_)
    clear hQ_ Q_
    try refine g_then ?_
    first | refine g_seq (g_cond_f rfl (by first | rfl | (simp; done) | (simp; omega) | (simp; assumption)) ?_) | refine g_cond_f rfl (by first | rfl | (simp; done) | (simp; omega) | (simp; assumption)) ?_
    refine G.bopen (f := cellD T) ⟨⟨k⟩, some b⟩ us hperm ?_
    change G _ _ (SetANS b (T k) :: _) _
    have hO : Ent (sl ([SetANS b (T k), bigS us (cellD T), dpC d m, MapANN m zs] ++ M)) (sl (J [])) := (bigS_back (f := cellD T) (y := ⟨⟨k⟩, some b⟩) hperm).trans hO0
    repeat (first | refine g_endt ?_ | refine g_end ?_ | refine g_then ?_ | refine g_in_normal ?_ | refine g_then_ret ?_ | refine g_in_ret ?_ | refine g_then_exit ?_ | refine g_in_exit rfl ?_ | refine g_in_exit_ne (by decide) ?_ | refine g_seq ?_ | refine g_region ?_ | refine g_block ?_ | refine g_ret ?_ | refine g_return_n ?_ | refine g_exit ?_ | refine g_skip ?_)
    refine g_hideR fun Q_ hQ_ => ?_
    refine o_move ?_
    refine o_call (AllNS_spec b) rfl rfl ?_
    rintro _ _ ⟨b3, rfl, rfl⟩
    refine g_end (G.imp (hQ_ .normal _) ?_)
    clear hQ_ Q_
    try refine g_then ?_
    repeat (first | refine g_endt ?_ | refine g_end ?_ | refine g_then ?_ | refine g_in_normal ?_ | refine g_then_ret ?_ | refine g_in_ret ?_ | refine g_then_exit ?_ | refine g_in_exit rfl ?_ | refine g_in_exit_ne (by decide) ?_ | refine g_seq ?_ | refine g_region ?_ | refine g_block ?_ | refine g_ret ?_ | refine g_return_n ?_ | refine g_exit ?_ | refine g_skip ?_)
    refine g_range (ps := [20]) (lb := [.pointer (some ⟨b3, 0, none⟩)]) (enc := NumD.enc') (xs := T k) rfl
      (fun pre => cY q l :: pSn b3 b :: Jin ([SetANS b (T k), bigS us (cellD T), dpC d m, MapANN m zs] ++ M) J (pre.map NumD.n))
      (fun c pre => pu (c = .ret) :: Jx (pre.map NumD.n))
      (fun K => All1NS_iter b b3 (T k) (by have := hb k; omega) (K :: cY q l :: pSn b3 b :: ([SetANS b (T k), bigS us (cellD T), dpC d m, MapANN m zs] ++ M)))
      (fun _ => rfl) (tk := (inferInstance : Take _ (cY q l :: pSn b3 b :: ([SetANS b (T k), bigS us (cellD T), dpC d m, MapANN m zs] ++ M)) _)) ?_ ?_ ?_
    · intro w0 F l' r pre x hp
      have hpm := num_pre hp
      refine G.ent (L' := cY q l :: pSn b3 b :: J (pre.map NumD.n)) ((Ent.refl _).star ((Ent.refl _).star (Jin_ent hO (pre.map NumD.n)))) ?_
      repeat (first | refine g_endt ?_ | refine g_end ?_ | refine g_then ?_ | refine g_in_normal ?_ | refine g_then_ret ?_ | refine g_in_ret ?_ | refine g_then_exit ?_ | refine g_in_exit rfl ?_ | refine g_in_exit_ne (by decide) ?_ | refine g_seq ?_ | refine g_region ?_ | refine g_block ?_ | refine g_ret ?_ | refine g_return_n ?_ | refine g_exit ?_ | refine g_skip ?_)
      refine g_hideR fun Q_ hQ_ => ?_
      refine o_assign ?_
      refine g_end (G.imp (hQ_ .normal _) ?_)
      clear hQ_ Q_
      try refine g_then ?_
      repeat (first | refine g_endt ?_ | refine g_end ?_ | refine g_then ?_ | refine g_in_normal ?_ | refine g_then_ret ?_ | refine g_in_ret ?_ | refine g_then_exit ?_ | refine g_in_exit rfl ?_ | refine g_in_exit_ne (by decide) ?_ | refine g_seq ?_ | refine g_region ?_ | refine g_block ?_ | refine g_ret ?_ | refine g_return_n ?_ | refine g_exit ?_ | refine g_skip ?_)
      refine g_begin ?_
      repeat (first | refine g_endt ?_ | refine g_end ?_ | refine g_then ?_ | refine g_in_normal ?_ | refine g_then_ret ?_ | refine g_in_ret ?_ | refine g_then_exit ?_ | refine g_in_exit rfl ?_ | refine g_in_exit_ne (by decide) ?_ | refine g_seq ?_ | refine g_region ?_ | refine g_block ?_ | refine g_ret ?_ | refine g_return_n ?_ | refine g_exit ?_ | refine g_skip ?_)
      refine o_load1 (v := .func (.yield l) #[] #[]) rfl rfl ?_
      refine o_move ?_
      refine o_yield (hy (pre.map NumD.n) x.n hpm) rfl rfl ?_ ?_
      · refine o_not rfl ?_
        refine g_endt ?_
        first | refine g_seq (g_cond_f rfl (rfl) ?_) | refine g_cond_f rfl (rfl) ?_
        repeat (first | refine g_endt ?_ | refine g_end ?_ | refine g_then ?_ | refine g_in_normal ?_ | refine g_then_ret ?_ | refine g_in_ret ?_ | refine g_then_exit ?_ | refine g_in_exit rfl ?_ | refine g_in_exit_ne (by decide) ?_ | refine g_seq ?_ | refine g_region ?_ | refine g_block ?_ | refine g_ret ?_ | refine g_return_n ?_ | refine g_exit ?_ | refine g_skip ?_)
        exact g_next (tk := by rw [List.map_append]; show Take _ (_ :: _ :: Jin _ J (pre.map NumD.n ++ [x.n])) _; rw [Jin_snoc]; infer_instance)
      · refine o_not rfl ?_
        refine g_endt ?_
        first | refine g_seq (g_cond_t rfl (rfl) ?_) | refine g_cond_t rfl (rfl) ?_
        repeat (first | refine g_endt ?_ | refine g_end ?_ | refine g_then ?_ | refine g_in_normal ?_ | refine g_then_ret ?_ | refine g_in_ret ?_ | refine g_then_exit ?_ | refine g_in_exit rfl ?_ | refine g_in_exit_ne (by decide) ?_ | refine g_seq ?_ | refine g_region ?_ | refine g_block ?_ | refine g_ret ?_ | refine g_return_n ?_ | refine g_exit ?_ | refine g_skip ?_)
        refine G.pu_in (q := Code.ret = Code.ret) rfl ?_
        exact g_leave_ret (tk := by rw [show (pre ++ [x]).map NumD.n = pre.map NumD.n ++ [x.n] by rw [List.map_append]; rfl]; infer_instance)
    · intro D
      refine G.ent (L' := cY q l :: pSn b3 b :: J ((T k).map NumD.n)) ((Ent.refl _).star ((Ent.refl _).star (Jin_ent hO ((T k).map NumD.n)))) ?_
      repeat (first | refine g_endt ?_ | refine g_end ?_ | refine g_then ?_ | refine g_in_normal ?_ | refine g_then_ret ?_ | refine g_in_ret ?_ | refine g_then_exit ?_ | refine g_in_exit rfl ?_ | refine g_in_exit_ne (by decide) ?_ | refine g_seq ?_ | refine g_region ?_ | refine g_block ?_ | refine g_ret ?_ | refine g_return_n ?_ | refine g_exit ?_ | refine g_skip ?_)
      exact ret0 (K := J ((T k).map NumD.n)) rfl (.inl rfl)
    · intro D c pre hp
      refine G.pu fun h => ?_
      subst h
      repeat (first | refine g_endt ?_ | refine g_end ?_ | refine g_then ?_ | refine g_in_normal ?_ | refine g_then_ret ?_ | refine g_in_ret ?_ | refine g_then_exit ?_ | refine g_in_exit rfl ?_ | refine g_in_exit_ne (by decide) ?_ | refine g_seq ?_ | refine g_region ?_ | refine g_block ?_ | refine g_ret ?_ | refine g_return_n ?_ | refine g_exit ?_ | refine g_skip ?_)
      exact ret0 (K := Jx (pre.map NumD.n)) rfl (.inr ⟨pre.map NumD.n, num_pre' hp, rfl⟩)
theorem OfDp_spec (d : Nat) (k : Int) : Ctr Try.prog 17 [.pointer (some ⟨d, 0, none⟩), .int .i64 k] []
    (fun v M => ∃ b1 b2, v = .func (.func 34) #[] #[.pointer (some ⟨b1, 0, none⟩), .pointer (some ⟨b2, 0, none⟩)] ∧ M = [pD b1 d, pK b2 k]) := by
  refine spec_of Try.func17 rfl Try.ntmps17 rfl fun w0 F => ?_
  -- hide
  -- (*ponder/deps.Deps).Of
  repeat (first | refine g_endt ?_ | refine g_end ?_ | refine g_then ?_ | refine g_in_normal ?_ | refine g_then_ret ?_ | refine g_in_ret ?_ | refine g_then_exit ?_ | refine g_in_exit rfl ?_ | refine g_in_exit_ne (by decide) ?_ | refine g_seq ?_ | refine g_region ?_ | refine g_block ?_ | refine g_ret ?_ | refine g_return_n ?_ | refine g_exit ?_ | refine g_skip ?_)
  refine o_boxc #[.pointer (some ⟨d, 0, none⟩)] rfl rfl fun b1 => G.freeze <| ?_
  refine o_boxc #[.int .i64 k] rfl rfl fun b2 => G.freeze <| ?_
  refine o_assign ?_
  first | refine g_endt ?_ | refine g_end ?_
  repeat (first | refine g_endt ?_ | refine g_end ?_ | refine g_then ?_ | refine g_in_normal ?_ | refine g_then_ret ?_ | refine g_in_ret ?_ | refine g_then_exit ?_ | refine g_in_exit rfl ?_ | refine g_in_exit_ne (by decide) ?_ | refine g_seq ?_ | refine g_region ?_ | refine g_block ?_ | refine g_ret ?_ | refine g_return_n ?_ | refine g_exit ?_ | refine g_skip ?_)
  refine o_func ?_
  refine o_assign ?_
  first | refine g_endt ?_ | refine g_end ?_
  repeat (first | refine g_endt ?_ | refine g_end ?_ | refine g_then ?_ | refine g_in_normal ?_ | refine g_then_ret ?_ | refine g_in_ret ?_ | refine g_then_exit ?_ | refine g_in_exit rfl ?_ | refine g_in_exit_ne (by decide) ?_ | refine g_seq ?_ | refine g_region ?_ | refine g_block ?_ | refine g_ret ?_ | refine g_return_n ?_ | refine g_exit ?_ | refine g_skip ?_)
  exact ret1 rfl (resT rfl) ⟨b1, b2, rfl, rfl⟩
theorem Levels1Dp_iter (d b1 : Nat) (T : DpT) (J0 : List SProp) {M : List SProp} [tk : Take1 J0 (DepP d T) M] [HasP J0 (pD b1 d)] :
    Iter Try.prog 36 [.pointer (some ⟨b1, 0, none⟩)] encVI (keysT T) J0 := by
  intro l J Jx hJ hy
  subst hJ
  refine spec_of Try.func36 rfl Try.ntmps36 rfl fun w0 F => ?_
  -- hide
  -- (*ponder/deps.Deps).Levels$1
  refine G.dup (pD b1 d) ?_
  repeat (first | refine g_endt ?_ | refine g_end ?_ | refine g_then ?_ | refine g_in_normal ?_ | refine g_then_ret ?_ | refine g_in_ret ?_ | refine g_then_exit ?_ | refine g_in_exit rfl ?_ | refine g_in_exit_ne (by decide) ?_ | refine g_seq ?_ | refine g_region ?_ | refine g_block ?_ | refine g_ret ?_ | refine g_return_n ?_ | refine g_exit ?_ | refine g_skip ?_)
  refine g_hideR fun Q_ hQ_ => ?_
  refine o_boxc #[.func (.yield l) #[] #[]] rfl rfl fun q => ?_
  refine g_end (G.imp (hQ_ .normal _) ?_)
  clear hQ_ Q_
  try refine g_then ?_
  refine openDp d T fun m zs hi => ?_
  have hzl := hi.len
  have hO : Ent (sl ([dpC d m, MapANN m zs, bigS zs (cellD T)] ++ M)) (sl (J [])) := DepP_of d T m zs hi
  have hk := hi.keys
  rw [← hk] at hy ⊢
  repeat (first | refine g_endt ?_ | refine g_end ?_ | refine g_then ?_ | refine g_in_normal ?_ | refine g_then_ret ?_ | refine g_in_ret ?_ | refine g_then_exit ?_ | refine g_in_exit rfl ?_ | refine g_in_exit_ne (by decide) ?_ | refine g_seq ?_ | refine g_region ?_ | refine g_block ?_ | refine g_ret ?_ | refine g_return_n ?_ | refine g_exit ?_ | refine g_skip ?_)
  refine g_hideR fun Q_ hQ_ => ?_
  refine o_load1 (v := .pointer (some ⟨d, 0, none⟩)) rfl rfl ?_
  refine o_nil rfl ?_
  first | refine o_field rfl ?_ | refine o_fieldR rfl (by omega) ?_
  refine o_load1 (v := .pointer (some ⟨m, 0, none⟩)) rfl rfl ?_
  refine o_call (KeysMNN_spec m) rfl rfl ?_
  rintro _ _ ⟨b3, rfl, rfl⟩
  refine g_end (G.imp (hQ_ .normal _) ?_)
  clear hQ_ Q_
  try refine g_then ?_
  repeat (first | refine g_endt ?_ | refine g_end ?_ | refine g_then ?_ | refine g_in_normal ?_ | refine g_then_ret ?_ | refine g_in_ret ?_ | refine g_then_exit ?_ | refine g_in_exit rfl ?_ | refine g_in_exit_ne (by decide) ?_ | refine g_seq ?_ | refine g_region ?_ | refine g_block ?_ | refine g_ret ?_ | refine g_return_n ?_ | refine g_exit ?_ | refine g_skip ?_)
  refine g_range (ps := [9]) (lb := [.pointer (some ⟨b3, 0, none⟩)]) (enc := PgNN.enck) (xs := zs) rfl
    (fun pre => cY q l :: pMn b3 m :: Jin ([dpC d m, MapANN m zs, bigS zs (cellD T)] ++ M) J (pre.map fun p => p.k.n))
    (fun c pre => pu (c = .ret) :: Jx (pre.map fun p => p.k.n))
    (fun K => KeysM1NN_iter m b3 zs (by omega) (K :: cY q l :: pMn b3 m :: ([dpC d m, MapANN m zs, bigS zs (cellD T)] ++ M)))
    (fun _ => rfl) (tk := (inferInstance : Take _ (cY q l :: pMn b3 m :: ([dpC d m, MapANN m zs, bigS zs (cellD T)] ++ M)) _)) ?_ ?_ ?_
  · intro w0 F l' r pre x hp
    have hpm : (pre.map (fun p => p.k.n) ++ [x.k.n]) <+: zs.map fun p => p.k.n := by
      obtain ⟨t, rfl⟩ := hp
      exact ⟨t.map fun p => p.k.n, by simp⟩
    refine G.ent (L' := cY q l :: pMn b3 m :: J (pre.map fun p => p.k.n)) ((Ent.refl _).star ((Ent.refl _).star (Jin_ent hO (pre.map fun p => p.k.n)))) ?_
    repeat (first | refine g_endt ?_ | refine g_end ?_ | refine g_then ?_ | refine g_in_normal ?_ | refine g_then_ret ?_ | refine g_in_ret ?_ | refine g_then_exit ?_ | refine g_in_exit rfl ?_ | refine g_in_exit_ne (by decide) ?_ | refine g_seq ?_ | refine g_region ?_ | refine g_block ?_ | refine g_ret ?_ | refine g_return_n ?_ | refine g_exit ?_ | refine g_skip ?_)
    refine g_hideR fun Q_ hQ_ => ?_
    refine o_assign ?_
    refine g_end (G.imp (hQ_ .normal _) ?_)
    clear hQ_ Q_
    try refine g_then ?_
    repeat (first | refine g_endt ?_ | refine g_end ?_ | refine g_then ?_ | refine g_in_normal ?_ | refine g_then_ret ?_ | refine g_in_ret ?_ | refine g_then_exit ?_ | refine g_in_exit rfl ?_ | refine g_in_exit_ne (by decide) ?_ | refine g_seq ?_ | refine g_region ?_ | refine g_block ?_ | refine g_ret ?_ | refine g_return_n ?_ | refine g_exit ?_ | refine g_skip ?_)
    refine g_begin ?_
    repeat (first | refine g_endt ?_ | refine g_end ?_ | refine g_then ?_ | refine g_in_normal ?_ | refine g_then_ret ?_ | refine g_in_ret ?_ | refine g_then_exit ?_ | refine g_in_exit rfl ?_ | refine g_in_exit_ne (by decide) ?_ | refine g_seq ?_ | refine g_region ?_ | refine g_block ?_ | refine g_ret ?_ | refine g_return_n ?_ | refine g_exit ?_ | refine g_skip ?_)
    refine o_load1 (v := .func (.yield l) #[] #[]) rfl rfl ?_
    refine o_move ?_
    refine o_yield (hy (pre.map fun p => p.k.n) x.k.n hpm) rfl rfl ?_ ?_
    · refine o_not rfl ?_
      refine g_endt ?_
      first | refine g_seq (g_cond_f rfl (rfl) ?_) | refine g_cond_f rfl (rfl) ?_
      repeat (first | refine g_endt ?_ | refine g_end ?_ | refine g_then ?_ | refine g_in_normal ?_ | refine g_then_ret ?_ | refine g_in_ret ?_ | refine g_then_exit ?_ | refine g_in_exit rfl ?_ | refine g_in_exit_ne (by decide) ?_ | refine g_seq ?_ | refine g_region ?_ | refine g_block ?_ | refine g_ret ?_ | refine g_return_n ?_ | refine g_exit ?_ | refine g_skip ?_)
      exact g_next (tk := by rw [List.map_append]; show Take _ (_ :: _ :: Jin _ J (pre.map (fun p => p.k.n) ++ [x.k.n])) _; rw [Jin_snoc]; infer_instance)
    · refine o_not rfl ?_
      refine g_endt ?_
      first | refine g_seq (g_cond_t rfl (rfl) ?_) | refine g_cond_t rfl (rfl) ?_
      repeat (first | refine g_endt ?_ | refine g_end ?_ | refine g_then ?_ | refine g_in_normal ?_ | refine g_then_ret ?_ | refine g_in_ret ?_ | refine g_then_exit ?_ | refine g_in_exit rfl ?_ | refine g_in_exit_ne (by decide) ?_ | refine g_seq ?_ | refine g_region ?_ | refine g_block ?_ | refine g_ret ?_ | refine g_return_n ?_ | refine g_exit ?_ | refine g_skip ?_)
      refine G.pu_in (q := Code.ret = Code.ret) rfl ?_
      exact g_leave_ret (tk := by rw [show (pre ++ [x]).map (fun p => p.k.n) = pre.map (fun p => p.k.n) ++ [x.k.n] by rw [List.map_append]; rfl]; infer_instance)
  · intro D
    refine G.ent (L' := cY q l :: pMn b3 m :: J (zs.map fun p => p.k.n)) ((Ent.refl _).star ((Ent.refl _).star (Jin_ent hO (zs.map fun p => p.k.n)))) ?_
    repeat (first | refine g_endt ?_ | refine g_end ?_ | refine g_then ?_ | refine g_in_normal ?_ | refine g_then_ret ?_ | refine g_in_ret ?_ | refine g_then_exit ?_ | refine g_in_exit rfl ?_ | refine g_in_exit_ne (by decide) ?_ | refine g_seq ?_ | refine g_region ?_ | refine g_block ?_ | refine g_ret ?_ | refine g_return_n ?_ | refine g_exit ?_ | refine g_skip ?_)
    exact ret0 (K := J (zs.map fun p => p.k.n)) rfl (.inl rfl)
  · intro D c pre hp
    refine G.pu fun h => ?_
    subst h
    repeat (first | refine g_endt ?_ | refine g_end ?_ | refine g_then ?_ | refine g_in_normal ?_ | refine g_then_ret ?_ | refine g_in_ret ?_ | refine g_then_exit ?_ | refine g_in_exit rfl ?_ | refine g_in_exit_ne (by decide) ?_ | refine g_seq ?_ | refine g_region ?_ | refine g_block ?_ | refine g_ret ?_ | refine g_return_n ?_ | refine g_exit ?_ | refine g_skip ?_)
    exact ret0 (K := Jx (pre.map fun p => p.k.n)) rfl (.inr ⟨pre.map fun p => p.k.n, by obtain ⟨t, rfl⟩ := hp; exact ⟨t.map fun p => p.k.n, by simp⟩, rfl⟩)
theorem LevelsDp_spec (d : Nat) : Ctr Try.prog 21 [.pointer (some ⟨d, 0, none⟩)] []
    (fun v M => ∃ b1, v = .func (.func 36) #[] #[.pointer (some ⟨b1, 0, none⟩)] ∧ M = [pD b1 d]) := by
  refine spec_of Try.func21 rfl Try.ntmps21 rfl fun w0 F => ?_
  -- hide
  -- (*ponder/deps.Deps).Levels
  repeat (first | refine g_endt ?_ | refine g_end ?_ | refine g_then ?_ | refine g_in_normal ?_ | refine g_then_ret ?_ | refine g_in_ret ?_ | refine g_then_exit ?_ | refine g_in_exit rfl ?_ | refine g_in_exit_ne (by decide) ?_ | refine g_seq ?_ | refine g_region ?_ | refine g_block ?_ | refine g_ret ?_ | refine g_return_n ?_ | refine g_exit ?_ | refine g_skip ?_)
  refine o_boxc #[.pointer (some ⟨d, 0, none⟩)] rfl rfl fun b1 => G.freeze <| ?_
  refine o_assign ?_
  first | refine g_endt ?_ | refine g_end ?_
  repeat (first | refine g_endt ?_ | refine g_end ?_ | refine g_then ?_ | refine g_in_normal ?_ | refine g_then_ret ?_ | refine g_in_ret ?_ | refine g_then_exit ?_ | refine g_in_exit rfl ?_ | refine g_in_exit_ne (by decide) ?_ | refine g_seq ?_ | refine g_region ?_ | refine g_block ?_ | refine g_ret ?_ | refine g_return_n ?_ | refine g_exit ?_ | refine g_skip ?_)
  refine o_func ?_
  refine o_assign ?_
  first | refine g_endt ?_ | refine g_end ?_
  repeat (first | refine g_endt ?_ | refine g_end ?_ | refine g_then ?_ | refine g_in_normal ?_ | refine g_then_ret ?_ | refine g_in_ret ?_ | refine g_then_exit ?_ | refine g_in_exit rfl ?_ | refine g_in_exit_ne (by decide) ?_ | refine g_seq ?_ | refine g_region ?_ | refine g_block ?_ | refine g_ret ?_ | refine g_return_n ?_ | refine g_exit ?_ | refine g_skip ?_)
  exact ret1 rfl (resT rfl) ⟨b1, rfl, rfl⟩
abbrev cI1 (c : Nat) (k : Int) : SProp := cellsB c #[.int .i64 k] 3
theorem hasC_num {l : List NumD} {y : NumD} : hasC NumD.cmp l y = true ↔ y ∈ l := by
  unfold hasC
  rw [List.any_eq_true]
  constructor
  · rintro ⟨z, hz, e⟩; rw [← NumD.cmp_iff.1 (of_decide_eq_true e)]; exact hz
  · intro h; exact ⟨y, h, decide_eq_true (NumD.cmp_iff.2 rfl)⟩
set_option maxHeartbeats 2000000 in
theorem HitDp_spec (d : Nat) (T : DpT) (gf : FuncId) (lb : List Value) (xs : List Int) (hx : xs.length ≤ 100000) (hb : ∀ j, (T j).length ≤ 100000) (Ks : List SProp) [En Try.prog gf] (hit : ∀ K, Iter Try.prog gf lb encVI xs (K ++ Ks)) :
    Ctr Try.prog 14 [.pointer (some ⟨d, 0, none⟩), .func (.func gf) #[] lb.toArray] (DepP d T :: Ks) (fun v M => v = .int .i64 (hitT T (xs.map NumD.mk)) ∧ M = DepP d T :: Ks) := by
  refine spec_of Try.func14 rfl Try.ntmps14 rfl fun w0 F => ?_
  -- hide
  -- (*ponder/deps.Deps).Hit
  repeat (first | refine g_endt ?_ | refine g_end ?_ | refine g_then ?_ | refine g_in_normal ?_ | refine g_then_ret ?_ | refine g_in_ret ?_ | refine g_then_exit ?_ | refine g_in_exit rfl ?_ | refine g_in_exit_ne (by decide) ?_ | refine g_seq ?_ | refine g_region ?_ | refine g_block ?_ | refine g_ret ?_ | refine g_return_n ?_ | refine g_exit ?_ | refine g_skip ?_)
  refine g_hideR fun Q_ hQ_ => ?_
  refine o_alloc fun c4 => ?_
  refine g_end (G.imp (hQ_ .normal _) ?_)
  clear hQ_ Q_
  try refine g_then ?_
  refine G.norm c4 #[.int .i64 0] rfl ?_
  repeat (first | refine g_endt ?_ | refine g_end ?_ | refine g_then ?_ | refine g_in_normal ?_ | refine g_then_ret ?_ | refine g_in_ret ?_ | refine g_then_exit ?_ | refine g_in_exit rfl ?_ | refine g_in_exit_ne (by decide) ?_ | refine g_seq ?_ | refine g_region ?_ | refine g_block ?_ | refine g_ret ?_ | refine g_return_n ?_ | refine g_exit ?_ | refine g_skip ?_)
  refine g_hideR fun Q_ hQ_ => ?_
  refine o_call (NewNS_spec) rfl rfl ?_
  rintro _ _ ⟨b, rfl, rfl⟩
  refine o_alloc fun c5 => ?_
  refine o_store (v := .pointer (some ⟨b, 0, none⟩)) rfl rfl rfl rfl rfl ?_
  refine g_end (G.imp (hQ_ .normal _) ?_)
  clear hQ_ Q_
  try refine g_then ?_
  refine G.norm c5 #[.pointer (some ⟨b, 0, none⟩)] rfl ?_
  repeat (first | refine g_endt ?_ | refine g_end ?_ | refine g_then ?_ | refine g_in_normal ?_ | refine g_then_ret ?_ | refine g_in_ret ?_ | refine g_then_exit ?_ | refine g_in_exit rfl ?_ | refine g_in_exit_ne (by decide) ?_ | refine g_seq ?_ | refine g_region ?_ | refine g_block ?_ | refine g_ret ?_ | refine g_return_n ?_ | refine g_exit ?_ | refine g_skip ?_)
  refine g_hideR fun Q_ hQ_ => ?_
  refine o_move ?_
  refine g_end (G.imp (hQ_ .normal _) ?_)
  clear hQ_ Q_
  try refine g_then ?_
  repeat (first | refine g_endt ?_ | refine g_end ?_ | refine g_then ?_ | refine g_in_normal ?_ | refine g_then_ret ?_ | refine g_in_ret ?_ | refine g_then_exit ?_ | refine g_in_exit rfl ?_ | refine g_in_exit_ne (by decide) ?_ | refine g_seq ?_ | refine g_region ?_ | refine g_block ?_ | refine g_ret ?_ | refine g_return_n ?_ | refine g_exit ?_ | refine g_skip ?_)
  refine g_range (ps := [11]) (lb := lb) (enc := encVI) (xs := xs) rfl
    (fun pre => [SetANS b ((pre.map NumD.mk).foldl (insC NumD.cmp) []), cS c5 b, cI1 c4 0, DepP d T] ++ Ks) (fun _ _ => [pu False])
    (fun K => hit [K, SetANS b [], cS c5 b, cI1 c4 0, DepP d T]) (fun _ => rfl) (tk := (inferInstance : Take _ (SetANS b [] :: cS c5 b :: cI1 c4 0 :: DepP d T :: Ks) _)) ?_ ?_ ?_
  · intro w0 F l r pre x hp
    have hlen : pre.length < xs.length := by
      obtain ⟨t, ht⟩ := hp
      have := congrArg List.length ht
      simp at this
      omega
    have hfl := fold_len_le (pre.map NumD.mk) []
    have hfs := fold_srt (pre.map NumD.mk) [] Srt.nil
    have hsn := fold_snoc (pre.map NumD.mk) [] ⟨x⟩
    rw [show pre.map NumD.mk ++ [⟨x⟩] = (pre ++ [x]).map NumD.mk by simp] at hsn
    rw [List.length_map, List.length_nil] at hfl
    rw [hsn]
    generalize (pre.map NumD.mk).foldl (insC NumD.cmp) [] = ys at hfl hfs ⊢
    repeat (first | refine g_endt ?_ | refine g_end ?_ | refine g_then ?_ | refine g_in_normal ?_ | refine g_then_ret ?_ | refine g_in_ret ?_ | refine g_then_exit ?_ | refine g_in_exit rfl ?_ | refine g_in_exit_ne (by decide) ?_ | refine g_seq ?_ | refine g_region ?_ | refine g_block ?_ | refine g_ret ?_ | refine g_return_n ?_ | refine g_exit ?_ | refine g_skip ?_)
    refine g_hideR fun Q_ hQ_ => ?_
    refine o_assign ?_
    refine g_end (G.imp (hQ_ .normal _) ?_)
    clear hQ_ Q_
    try refine g_then ?_
    repeat (first | refine g_endt ?_ | refine g_end ?_ | refine g_then ?_ | refine g_in_normal ?_ | refine g_then_ret ?_ | refine g_in_ret ?_ | refine g_then_exit ?_ | refine g_in_exit rfl ?_ | refine g_in_exit_ne (by decide) ?_ | refine g_seq ?_ | refine g_region ?_ | refine g_block ?_ | refine g_ret ?_ | refine g_return_n ?_ | refine g_exit ?_ | refine g_skip ?_)
    refine g_begin ?_
    repeat (first | refine g_endt ?_ | refine g_end ?_ | refine g_then ?_ | refine g_in_normal ?_ | refine g_then_ret ?_ | refine g_in_ret ?_ | refine g_then_exit ?_ | refine g_in_exit rfl ?_ | refine g_in_exit_ne (by decide) ?_ | refine g_seq ?_ | refine g_region ?_ | refine g_block ?_ | refine g_ret ?_ | refine g_return_n ?_ | refine g_exit ?_ | refine g_skip ?_)
    refine g_hideR fun Q_ hQ_ => ?_
    refine o_load1 (v := .pointer (some ⟨b, 0, none⟩)) rfl rfl ?_
    refine o_move ?_
    refine o_call (PutCNS_spec b ys ⟨x⟩ hfs (by omega)) rfl rfl ?_
    rintro _ _ ⟨rfl, rfl⟩
    refine g_end (G.imp (hQ_ .normal _) ?_)
    clear hQ_ Q_
    try refine g_then ?_
    repeat (first | refine g_endt ?_ | refine g_end ?_ | refine g_then ?_ | refine g_in_normal ?_ | refine g_then_ret ?_ | refine g_in_ret ?_ | refine g_then_exit ?_ | refine g_in_exit rfl ?_ | refine g_in_exit_ne (by decide) ?_ | refine g_seq ?_ | refine g_region ?_ | refine g_block ?_ | refine g_ret ?_ | refine g_return_n ?_ | refine g_exit ?_ | refine g_skip ?_)
    exact g_next
  · intro D
    have hfl := fold_len_le (xs.map NumD.mk) []
    have hfs := fold_srt (xs.map NumD.mk) [] Srt.nil
    have hmem : ∀ y, hasC NumD.cmp ((xs.map NumD.mk).foldl (insC NumD.cmp) []) y = hasC NumD.cmp (xs.map NumD.mk) y := fun y => by
      rw [hasC_fold linNum]; rfl
    rw [List.length_map, List.length_nil] at hfl
    have hhT : hitT T ((xs.map NumD.mk).foldl (insC NumD.cmp) []) = hitT T (xs.map NumD.mk) := by
      unfold hitT
      congr 2
      funext k
      congr 1
      funext y
      exact hmem y
    rw [← hhT]
    generalize (xs.map NumD.mk).foldl (insC NumD.cmp) [] = out at hfl hfs ⊢
    refine openDp d T fun m zs hi => ?_
    have hzl := hi.len
    repeat (first | refine g_endt ?_ | refine g_end ?_ | refine g_then ?_ | refine g_in_normal ?_ | refine g_then_ret ?_ | refine g_in_ret ?_ | refine g_then_exit ?_ | refine g_in_exit rfl ?_ | refine g_in_exit_ne (by decide) ?_ | refine g_seq ?_ | refine g_region ?_ | refine g_block ?_ | refine g_ret ?_ | refine g_return_n ?_ | refine g_exit ?_ | refine g_skip ?_)
    refine g_hideR fun Q_ hQ_ => ?_
    refine o_move ?_
    refine o_nil rfl ?_
    first | refine o_field rfl ?_ | refine o_fieldR rfl (by omega) ?_
    refine o_load1 (v := .pointer (some ⟨m, 0, none⟩)) rfl rfl ?_
    refine o_call (AllMNN_spec m) rfl rfl ?_
    rintro _ _ ⟨b3, rfl, rfl⟩
    refine g_end (G.imp (hQ_ .normal _) ?_)
    clear hQ_ Q_
    try refine g_then ?_
    repeat (first | refine g_endt ?_ | refine g_end ?_ | refine g_then ?_ | refine g_in_normal ?_ | refine g_then_ret ?_ | refine g_in_ret ?_ | refine g_then_exit ?_ | refine g_in_exit rfl ?_ | refine g_in_exit_ne (by decide) ?_ | refine g_seq ?_ | refine g_region ?_ | refine g_block ?_ | refine g_ret ?_ | refine g_return_n ?_ | refine g_exit ?_ | refine g_skip ?_)
    refine G.pu_in (q := ∀ p ∈ ([] : List PgNN), (T p.k.n).any (hasC NumD.cmp out) = false) (by simp) ?_
    refine g_range (ps := [20, 21]) (lb := [.pointer (some ⟨b3, 0, none⟩)]) (enc := PgNN.enc2) (xs := zs) rfl
      (fun pre => pu (∀ p ∈ pre, (T p.k.n).any (hasC NumD.cmp out) = false) :: SetANS b out :: cS c5 b :: cI1 c4 0 :: pMn b3 m :: dpC d m :: MapANN m zs :: bigS zs (cellD T) :: Ks) (fun c _ => pu (c = .ret) :: cI1 c4 (hitT T out) :: dpC d m :: MapANN m zs :: bigS zs (cellD T) :: Ks)
      (fun K => AllM1NN_iter m b3 zs (by omega) _) (fun _ => rfl) ?_ ?_ ?_
    · intro w0 F l r pre x hp
      refine G.pu fun hpre => ?_
      have hxm : x ∈ zs := hp.subset (by simp)
      obtain ⟨k, v⟩ := x
      cases v with
      | none => exact absurd rfl (hi.ptr _ hxm)
      | some b2 =>
        obtain ⟨us, hperm⟩ := mem_perm hxm
        refine G.bopen (ys := zs) (f := cellD T) ⟨k, some b2⟩ us hperm ?_
        change G _ _ (SetANS b2 (T k.n) :: _) _
        have hbk := hb k.n
        have hany : decide (0 < ((T k.n).filter fun y => hasC NumD.cmp out y).length) = (T k.n).any (hasC NumD.cmp out) := by
          rw [Bool.eq_iff_iff, decide_eq_true_iff, List.length_pos_iff, List.any_eq_true]
          constructor
          · intro hne
            obtain ⟨z, hz⟩ := List.exists_mem_of_ne_nil _ hne
            exact ⟨z, (List.mem_filter.1 hz).1, (List.mem_filter.1 hz).2⟩
          · rintro ⟨z, hz, e⟩ hn
            have : z ∈ (T k.n).filter fun y => hasC NumD.cmp out y := List.mem_filter.2 ⟨hz, e⟩
            rw [hn] at this; cases this
        repeat (first | refine g_endt ?_ | refine g_end ?_ | refine g_then ?_ | refine g_in_normal ?_ | refine g_then_ret ?_ | refine g_in_ret ?_ | refine g_then_exit ?_ | refine g_in_exit rfl ?_ | refine g_in_exit_ne (by decide) ?_ | refine g_seq ?_ | refine g_region ?_ | refine g_block ?_ | refine g_ret ?_ | refine g_return_n ?_ | refine g_exit ?_ | refine g_skip ?_)
        refine g_hideR fun Q_ hQ_ => ?_
        refine o_assign ?_
        refine g_end (G.imp (hQ_ .normal _) ?_)
        clear hQ_ Q_
        try refine g_then ?_
        repeat (first | refine g_endt ?_ | refine g_end ?_ | refine g_then ?_ | refine g_in_normal ?_ | refine g_then_ret ?_ | refine g_in_ret ?_ | refine g_then_exit ?_ | refine g_in_exit rfl ?_ | refine g_in_exit_ne (by decide) ?_ | refine g_seq ?_ | refine g_region ?_ | refine g_block ?_ | refine g_ret ?_ | refine g_return_n ?_ | refine g_exit ?_ | refine g_skip ?_)
        refine g_hideR fun Q_ hQ_ => ?_
        refine o_assign ?_
        refine g_end (G.imp (hQ_ .normal _) ?_)
        clear hQ_ Q_
        try refine g_then ?_
        repeat (first | refine g_endt ?_ | refine g_end ?_ | refine g_then ?_ | refine g_in_normal ?_ | refine g_then_ret ?_ | refine g_in_ret ?_ | refine g_then_exit ?_ | refine g_in_exit rfl ?_ | refine g_in_exit_ne (by decide) ?_ | refine g_seq ?_ | refine g_region ?_ | refine g_block ?_ | refine g_ret ?_ | refine g_return_n ?_ | refine g_exit ?_ | refine g_skip ?_)
        refine g_begin ?_
        generalize hus : ((T k.n).filter fun y => hasC NumD.cmp out y) = mt at hany
        repeat (first | refine g_endt ?_ | refine g_end ?_ | refine g_then ?_ | refine g_in_normal ?_ | refine g_then_ret ?_ | refine g_in_ret ?_ | refine g_then_exit ?_ | refine g_in_exit rfl ?_ | refine g_in_exit_ne (by decide) ?_ | refine g_seq ?_ | refine g_region ?_ | refine g_block ?_ | refine g_ret ?_ | refine g_return_n ?_ | refine g_exit ?_ | refine g_skip ?_)
        refine g_hideR fun Q_ hQ_ => ?_
        refine o_move ?_
        refine o_load1 (v := .pointer (some ⟨b, 0, none⟩)) rfl rfl ?_
        refine o_call (MeetNS_spec b2 b (T k.n) out hfs (by omega) (by omega)) rfl rfl ?_
        rintro _ _ ⟨r2, rfl, rfl⟩
        rw [hus]
        refine o_call (LenNS_spec r2 mt) rfl rfl ?_
        rintro _ _ ⟨rfl, rfl⟩
        refine o_gtr rfl rfl ?_
        refine g_end (G.imp (hQ_ .normal _) ?_)
        clear hQ_ Q_
        try refine g_then ?_
        refine G.bshut zs (cellD T) ⟨k, some b2⟩ us hperm.symm (tk := (inferInstance : Take _ [SetANS b2 (T k.n), bigS us (cellD T)] _)) ?_
        cases hbl : (T k.n).any (hasC NumD.cmp out) with
        | true =>
          rw [hbl] at hany
          first | refine g_seq (g_cond_t rfl (by simpa using hany) ?_) | refine g_cond_t rfl (by simpa using hany) ?_
          have hh := hi.hit out hp hpre hbl
          repeat (first | refine g_endt ?_ | refine g_end ?_ | refine g_then ?_ | refine g_in_normal ?_ | refine g_then_ret ?_ | refine g_in_ret ?_ | refine g_then_exit ?_ | refine g_in_exit rfl ?_ | refine g_in_exit_ne (by decide) ?_ | refine g_seq ?_ | refine g_region ?_ | refine g_block ?_ | refine g_ret ?_ | refine g_return_n ?_ | refine g_exit ?_ | refine g_skip ?_)
          refine g_hideR fun Q_ hQ_ => ?_
          refine o_move ?_
          refine o_store (v := .int .i64 k.n) rfl rfl rfl rfl rfl ?_
          refine g_end (G.imp (hQ_ .normal _) ?_)
          clear hQ_ Q_
          try refine g_then ?_
          refine G.norm c4 #[.int .i64 k.n] rfl ?_
          rw [show k.n = hitT T out from hh.symm]
          refine G.pu_in (q := Code.ret = Code.ret) rfl ?_
          repeat (first | refine g_endt ?_ | refine g_end ?_ | refine g_then ?_ | refine g_in_normal ?_ | refine g_then_ret ?_ | refine g_in_ret ?_ | refine g_then_exit ?_ | refine g_in_exit rfl ?_ | refine g_in_exit_ne (by decide) ?_ | refine g_seq ?_ | refine g_region ?_ | refine g_block ?_ | refine g_ret ?_ | refine g_return_n ?_ | refine g_exit ?_ | refine g_skip ?_)
          exact g_leave_ret
        | false =>
          rw [hbl] at hany
          first | refine g_seq (g_cond_f rfl (by simpa using hany) ?_) | refine g_cond_f rfl (by simpa using hany) ?_
          refine G.pu_in (q := ∀ p ∈ pre ++ [⟨k, some b2⟩], (T p.k.n).any (hasC NumD.cmp out) = false) (fun p hp => by
            rcases List.mem_append.1 hp with hp | hp
            · exact hpre p hp
            · rw [List.mem_singleton] at hp; subst hp; exact hbl) ?_
          repeat (first | refine g_endt ?_ | refine g_end ?_ | refine g_then ?_ | refine g_in_normal ?_ | refine g_then_ret ?_ | refine g_in_ret ?_ | refine g_then_exit ?_ | refine g_in_exit rfl ?_ | refine g_in_exit_ne (by decide) ?_ | refine g_seq ?_ | refine g_region ?_ | refine g_block ?_ | refine g_ret ?_ | refine g_return_n ?_ | refine g_exit ?_ | refine g_skip ?_)
          exact g_next
    · intro D2
      refine G.pu fun hall => ?_
      rw [hi.nohit out hall]
      repeat (first | refine g_endt ?_ | refine g_end ?_ | refine g_then ?_ | refine g_in_normal ?_ | refine g_then_ret ?_ | refine g_in_ret ?_ | refine g_then_exit ?_ | refine g_in_exit rfl ?_ | refine g_in_exit_ne (by decide) ?_ | refine g_seq ?_ | refine g_region ?_ | refine g_block ?_ | refine g_ret ?_ | refine g_return_n ?_ | refine g_exit ?_ | refine g_skip ?_)
      refine g_hideR fun Q_ hQ_ => ?_
      refine o_store (v := .int .i64 0) rfl rfl rfl rfl rfl ?_
      refine g_end (G.imp (hQ_ .normal _) ?_)
      clear hQ_ Q_
      try refine g_then ?_
      refine G.norm c4 #[.int .i64 0] rfl ?_
      refine shutDp d T m zs hi ?_
      repeat (first | refine g_endt ?_ | refine g_end ?_ | refine g_then ?_ | refine g_in_normal ?_ | refine g_then_ret ?_ | refine g_in_ret ?_ | refine g_then_exit ?_ | refine g_in_exit rfl ?_ | refine g_in_exit_ne (by decide) ?_ | refine g_seq ?_ | refine g_region ?_ | refine g_block ?_ | refine g_ret ?_ | refine g_return_n ?_ | refine g_exit ?_ | refine g_skip ?_)
      exact ret1 (K := DepP d T :: Ks) rfl (resC1 rfl rfl) ⟨rfl, rfl⟩
    · intro D2 c pre hp
      refine G.pu fun h => ?_
      subst h
      refine shutDp d T m zs hi ?_
      repeat (first | refine g_endt ?_ | refine g_end ?_ | refine g_then ?_ | refine g_in_normal ?_ | refine g_then_ret ?_ | refine g_in_ret ?_ | refine g_then_exit ?_ | refine g_in_exit rfl ?_ | refine g_in_exit_ne (by decide) ?_ | refine g_seq ?_ | refine g_region ?_ | refine g_block ?_ | refine g_ret ?_ | refine g_return_n ?_ | refine g_exit ?_ | refine g_skip ?_)
      exact ret1 (K := DepP d T :: Ks) rfl (resC1 rfl rfl) ⟨rfl, rfl⟩
  · intro D c pre hp
    exact G.pu fun h => h.elim
end Go.Proofs.Yteokgobeafnpoaa
/- An ordered map's functions, for one type of keys and one of values: dropped. -/
namespace Go.Proofs.Yteokgobeafnpoaa
open Go Go.Sl
attribute [local irreducible] Code.wpIn roundPost bodyPostM runL Ret Meets Begin

theorem DropMNN_spec (m : Nat) (ys : List PgNN) (k : NumD) (hs : Srt PgNN.cmp ys) (hl : ys.length < 1000000000) : Ctr Try.prog 39 [.pointer (some ⟨m, 0, none⟩), k.val] [MapANN m ys]
    (fun u M => ∃ (i : Nat) (there : Bool), u = .tuple #[PgNN.vval ((cond there ys[i]? none).getD PgNN.zero).v, .bool there] ∧ M = [MapANN m (cond there (ys.eraseIdx i) ys)] ∧ FindR PgNN.cmp ys ⟨k, PgNN.zero.v⟩ i there) := by
  refine spec_of Try.func39 rfl Try.ntmps39 rfl fun w0 F => ?_
  repeat (first | refine g_endt ?_ | refine g_end ?_ | refine g_then ?_ | refine g_in_normal ?_ | refine g_then_ret ?_ | refine g_in_ret ?_ | refine g_then_exit ?_ | refine g_in_exit rfl ?_ | refine g_in_exit_ne (by decide) ?_ | refine g_seq ?_ | refine g_region ?_ | refine g_block ?_ | refine g_ret ?_ | refine g_return_n ?_ | refine g_exit ?_ | refine g_skip ?_)
  refine openMNN m ys fun p => ?_
  refine o_assign ?_
  refine o_assign ?_
  refine g_endt ?_
  repeat (first | refine g_endt ?_ | refine g_end ?_ | refine g_then ?_ | refine g_in_normal ?_ | refine g_then_ret ?_ | refine g_in_ret ?_ | refine g_then_exit ?_ | refine g_in_exit rfl ?_ | refine g_in_exit_ne (by decide) ?_ | refine g_seq ?_ | refine g_region ?_ | refine g_block ?_ | refine g_ret ?_ | refine g_return_n ?_ | refine g_exit ?_ | refine g_skip ?_)
  refine o_move ?_
  refine o_peql rfl ?_
  first | refine g_endt ?_ | refine g_end ?_
  first | refine g_seq (g_cond_f rfl (rfl) ?_) | refine g_cond_f rfl (rfl) ?_
  repeat (first | refine g_endt ?_ | refine g_end ?_ | refine g_then ?_ | refine g_in_normal ?_ | refine g_then_ret ?_ | refine g_in_ret ?_ | refine g_then_exit ?_ | refine g_in_exit rfl ?_ | refine g_in_exit_ne (by decide) ?_ | refine g_seq ?_ | refine g_region ?_ | refine g_block ?_ | refine g_ret ?_ | refine g_return_n ?_ | refine g_exit ?_ | refine g_skip ?_)
  refine g_draw [10, 11] [0,1,2,3,4,5,6,7,8,9,10,11,12] [SetANN p ys, cellsB m #[.pointer (some ⟨p, 0, none⟩)] 81] mixed rfl ?_
  refine ob_q rfl rfl ⟨_, fun X Q h => o_move (g_end (h _ _ ⟨rfl, rfl⟩)), ?_⟩
  refine ob_q rfl rfl ⟨_, fun X Q h => o_nil rfl (g_end (h _ _ ⟨rfl, rfl⟩)), ?_⟩
  refine ob_q rfl rfl ⟨_, fun X Q h => o_field rfl (g_end (h _ _ ⟨rfl, rfl⟩)), ?_⟩
  refine ob_q rfl rfl ⟨_, fun X Q h => o_load1 (v := .pointer (some ⟨p, 0, none⟩)) rfl rfl (g_end (h _ _ ⟨rfl, rfl⟩)), ?_⟩
  refine ob_q rfl rfl ⟨_, fun X Q h => o_move (g_end (h _ _ ⟨rfl, rfl⟩)), ?_⟩
  refine ob_q rfl rfl ⟨_, fun X Q h => o_call (atNN_spec k) rfl rfl <| by rintro _ _ ⟨rfl, rfl⟩; exact (g_end (h _ _ ⟨rfl, rfl⟩)), ?_⟩
  refine ob_q rfl rfl ⟨_, fun X Q h => o_call (GetMNN_spec p ys ⟨k, PgNN.zero.v⟩ hs hl) rfl rfl <| by rintro _ _ ⟨rfl, rfl⟩; exact (g_end (h _ _ ⟨rfl, rfl⟩)), ?_⟩
  refine ob_q rfl rfl ⟨_, fun X Q h => o_move (g_end (h _ _ ⟨rfl, rfl⟩)), ?_⟩
  refine ob_q rfl rfl ⟨_, fun X Q h => o_extract rfl rfl (g_end (h _ _ ⟨rfl, rfl⟩)), ?_⟩
  refine ob_q rfl rfl ⟨_, fun X Q h => o_extract rfl rfl (g_end (h _ _ ⟨rfl, rfl⟩)), ?_⟩
  generalize ho : getM PgNN.cmp ys ⟨k, PgNN.zero.v⟩ = o
  refine ob_l rfl rfl fun Qz hz => o_alloc fun r => g_end (hz _ _ ⟨_, ob_fin, ?_⟩)
  clear hz Qz
  refine ob_l rfl rfl fun Qz hz => o_store (v := (o.getD PgNN.zero).val) rfl rfl rfl rfl rfl <| g_end (hz _ _ ⟨_, ob_fin, ?_⟩)
  clear hz Qz
  refine ob_q rfl rfl ⟨_, fun X Q h => o_assign (g_end (h _ _ ⟨rfl, rfl⟩)), ?_⟩
  refine ob_nil ?_
  refine G.norm r (o.getD PgNN.zero).val.cells rfl ?_
  repeat (first | refine g_endt ?_ | refine g_end ?_ | refine g_then ?_ | refine g_in_normal ?_ | refine g_then_ret ?_ | refine g_in_ret ?_ | refine g_then_exit ?_ | refine g_in_exit rfl ?_ | refine g_in_exit_ne (by decide) ?_ | refine g_seq ?_ | refine g_region ?_ | refine g_block ?_ | refine g_ret ?_ | refine g_return_n ?_ | refine g_exit ?_ | refine g_skip ?_)
  refine o_move ?_
  refine g_endt ?_
  cases o with
  | none =>
    first | refine g_seq (g_cond_f rfl (rfl) ?_) | refine g_cond_f rfl (rfl) ?_
    repeat (first | refine g_endt ?_ | refine g_end ?_ | refine g_then ?_ | refine g_in_normal ?_ | refine g_then_ret ?_ | refine g_in_ret ?_ | refine g_then_exit ?_ | refine g_in_exit rfl ?_ | refine g_in_exit_ne (by decide) ?_ | refine g_seq ?_ | refine g_region ?_ | refine g_block ?_ | refine g_ret ?_ | refine g_return_n ?_ | refine g_exit ?_ | refine g_skip ?_)
    refine G.norm r PgNN.zero.val.cells rfl ?_
    refine o_field rfl ?_
    refine o_load1 (v := PgNN.vval PgNN.zero.v) rfl rfl ?_
    refine o_move ?_
    refine o_assign ?_
    refine o_assign ?_
    refine g_endt ?_
    refine shutMNN m p ys ?_
    obtain ⟨i, hi⟩ := find_none PgNN.lin hs ho
    repeat (first | refine g_endt ?_ | refine g_end ?_ | refine g_then ?_ | refine g_in_normal ?_ | refine g_then_ret ?_ | refine g_in_ret ?_ | refine g_then_exit ?_ | refine g_in_exit rfl ?_ | refine g_in_exit_ne (by decide) ?_ | refine g_seq ?_ | refine g_region ?_ | refine g_block ?_ | refine g_ret ?_ | refine g_return_n ?_ | refine g_exit ?_ | refine g_skip ?_)
    exact ret2 (K := [MapANN m ys]) rfl (resT rfl) (resT rfl) ⟨i, false, rfl, rfl, hi⟩
  | some old =>
    first | refine g_seq (g_cond_t rfl (rfl) ?_) | refine g_cond_t rfl (rfl) ?_
    obtain ⟨i, hi, hy⟩ : ∃ i, FindR PgNN.cmp ys ⟨k, PgNN.zero.v⟩ i true ∧ ys[i]? = some old := by
      have h1 := List.find?_some ho
      have h2 := List.mem_of_find?_eq_some ho
      obtain ⟨j, hj⟩ := List.mem_iff_getElem?.1 h2
      exact ⟨j, ⟨by have := (List.getElem?_eq_some_iff.1 hj).1; omega, fun _ => ⟨old, hj, by simpa using h1⟩, fun e => by cases e⟩, hj⟩
    refine G.norm r old.val.cells rfl ?_
    have hself : FindR PgNN.cmp ys old i true := ⟨hi.1, fun _ => ⟨old, hy, PgNN.lin.refl old⟩, fun e => by cases e⟩
    repeat (first | refine g_endt ?_ | refine g_end ?_ | refine g_then ?_ | refine g_in_normal ?_ | refine g_then_ret ?_ | refine g_in_ret ?_ | refine g_then_exit ?_ | refine g_in_exit rfl ?_ | refine g_in_exit_ne (by decide) ?_ | refine g_seq ?_ | refine g_region ?_ | refine g_block ?_ | refine g_ret ?_ | refine g_return_n ?_ | refine g_exit ?_ | refine g_skip ?_)
    refine g_draw [5] [0,1,2,3,4,5] [cellsB m #[.pointer (some ⟨p, 0, none⟩)] 81, cellsB r old.val.cells 79] mixed rfl ?_
    refine ob_q rfl rfl ⟨_, fun X Q h => o_move (g_end (h _ _ ⟨rfl, rfl⟩)), ?_⟩
    refine ob_q rfl rfl ⟨_, fun X Q h => o_nil rfl (g_end (h _ _ ⟨rfl, rfl⟩)), ?_⟩
    refine ob_q rfl rfl ⟨_, fun X Q h => o_field rfl (g_end (h _ _ ⟨rfl, rfl⟩)), ?_⟩
    refine ob_q rfl rfl ⟨_, fun X Q h => o_load1 (v := .pointer (some ⟨p, 0, none⟩)) rfl rfl (g_end (h _ _ ⟨rfl, rfl⟩)), ?_⟩
    refine ob_q rfl rfl ⟨_, fun X Q h => o_loadN (v := old.val) rfl rfl rfl (g_end (h _ _ ⟨rfl, rfl⟩)), ?_⟩
    refine ob_l rfl rfl fun Qz hz => o_call (DropNN_spec p ys old hs (by omega)) rfl rfl ?_
    rintro _ M1 ⟨i1, there, rfl, hM, hk⟩
    have ht : there = true := by
      cases there with
      | true => rfl
      | false =>
        obtain ⟨h1, h2⟩ := hk.2.2 rfl
        have h3 := PgNN.lin.refl old
        by_cases hlt : i < i1
        · have := h1 i old hlt hy; omega
        · have := h2 i old (by omega) hy; omega
    subst ht
    have hii : i1 = i := FindR.one PgNN.lin hs hk hself
    subst hii
    have hM : M1 = [SetANN p (ys.eraseIdx i1)] := hM
    subst hM
    refine g_end (hz _ _ ⟨_, ob_fin, ?_⟩)
    clear hz Qz
    refine ob_nil ?_
    repeat (first | refine g_endt ?_ | refine g_end ?_ | refine g_then ?_ | refine g_in_normal ?_ | refine g_then_ret ?_ | refine g_in_ret ?_ | refine g_then_exit ?_ | refine g_in_exit rfl ?_ | refine g_in_exit_ne (by decide) ?_ | refine g_seq ?_ | refine g_region ?_ | refine g_block ?_ | refine g_ret ?_ | refine g_return_n ?_ | refine g_exit ?_ | refine g_skip ?_)
    refine o_field rfl ?_
    refine o_load1 (v := PgNN.vval old.v) rfl rfl ?_
    refine o_move ?_
    refine o_assign ?_
    refine o_assign ?_
    refine g_endt ?_
    refine shutMNN m p (ys.eraseIdx i1) ?_
    repeat (first | refine g_endt ?_ | refine g_end ?_ | refine g_then ?_ | refine g_in_normal ?_ | refine g_then_ret ?_ | refine g_in_ret ?_ | refine g_then_exit ?_ | refine g_in_exit rfl ?_ | refine g_in_exit_ne (by decide) ?_ | refine g_seq ?_ | refine g_region ?_ | refine g_block ?_ | refine g_ret ?_ | refine g_return_n ?_ | refine g_exit ?_ | refine g_skip ?_)
    exact ret2 (K := [MapANN m (ys.eraseIdx i1)]) rfl (resT rfl) (resT rfl) ⟨i1, true, by rw [cond_true, hy]; rfl, rfl, hi⟩
end Go.Proofs.Yteokgobeafnpoaa
/- An ordered set's functions, for one type of members: another set with the same members. -/
namespace Go.Proofs.Yteokgobeafnpoaa
open Go Go.Sl
attribute [local irreducible] Code.wpIn roundPost bodyPostM runL Ret Meets Begin

theorem CloneNS_spec (p : Nat) (ys : List NumD) : Ctr Try.prog 38 [.pointer (some ⟨p, 0, none⟩)] [SetANS p ys]
    (fun v M => ∃ q, v = .pointer (some ⟨q, 0, none⟩) ∧ M = [SetANS p ys, SetANS q ys]) := by
  refine spec_of Try.func38 rfl Try.ntmps38 rfl fun w0 F => ?_
  repeat (first | refine g_endt ?_ | refine g_end ?_ | refine g_then ?_ | refine g_in_normal ?_ | refine g_then_ret ?_ | refine g_in_ret ?_ | refine g_then_exit ?_ | refine g_in_exit rfl ?_ | refine g_in_exit_ne (by decide) ?_ | refine g_seq ?_ | refine g_region ?_ | refine g_block ?_ | refine g_ret ?_ | refine g_return_n ?_ | refine g_exit ?_ | refine g_skip ?_)
  refine o_assign ?_
  first | refine g_endt ?_ | refine g_end ?_
  repeat (first | refine g_endt ?_ | refine g_end ?_ | refine g_then ?_ | refine g_in_normal ?_ | refine g_then_ret ?_ | refine g_in_ret ?_ | refine g_then_exit ?_ | refine g_in_exit rfl ?_ | refine g_in_exit_ne (by decide) ?_ | refine g_seq ?_ | refine g_region ?_ | refine g_block ?_ | refine g_ret ?_ | refine g_return_n ?_ | refine g_exit ?_ | refine g_skip ?_)
  refine o_move ?_
  refine o_peql rfl ?_
  first | refine g_endt ?_ | refine g_end ?_
  first | refine g_seq (g_cond_f rfl (rfl) ?_) | refine g_cond_f rfl (rfl) ?_
  repeat (first | refine g_endt ?_ | refine g_end ?_ | refine g_then ?_ | refine g_in_normal ?_ | refine g_then_ret ?_ | refine g_in_ret ?_ | refine g_then_exit ?_ | refine g_in_exit rfl ?_ | refine g_in_exit_ne (by decide) ?_ | refine g_seq ?_ | refine g_region ?_ | refine g_block ?_ | refine g_ret ?_ | refine g_return_n ?_ | refine g_exit ?_ | refine g_skip ?_)
  refine openNS p ys fun S c b => ?_
  refine o_move ?_
  refine o_nil rfl ?_
  refine o_field rfl ?_
  refine o_store (v := .bool true) rfl rfl rfl rfl rfl ?_
  refine g_endt ?_
  refine G.norm p #[.slice S ys.length c, .bool true] rfl ?_
  refine G.bring [row 54 NumD.enc 1 b S c ys] ?_
  refine G.see1 ?_
  repeat (first | refine g_endt ?_ | refine g_end ?_ | refine g_then ?_ | refine g_in_normal ?_ | refine g_then_ret ?_ | refine g_in_ret ?_ | refine g_then_exit ?_ | refine g_in_exit rfl ?_ | refine g_in_exit_ne (by decide) ?_ | refine g_seq ?_ | refine g_region ?_ | refine g_block ?_ | refine g_ret ?_ | refine g_return_n ?_ | refine g_exit ?_ | refine g_skip ?_)
  refine o_move ?_
  refine o_nil rfl ?_
  refine o_field rfl ?_
  refine o_load1 (v := .slice S ys.length c) rfl rfl ?_
  refine o_build (.agg #[.slice S ys.length c, .bool true]) (fun w => by kernel_rfl) ?_
  refine o_boxc #[.slice S ys.length c, .bool true] rfl rfl fun q => ?_
  refine o_assign ?_
  refine g_endt ?_
  refine G.dup (psl NumD.enc 1 S ys) ?_
  refine shutTNS q ys S c rfl ?_
  refine shutTNS p ys S c rfl ?_
  repeat (first | refine g_endt ?_ | refine g_end ?_ | refine g_then ?_ | refine g_in_normal ?_ | refine g_then_ret ?_ | refine g_in_ret ?_ | refine g_then_exit ?_ | refine g_in_exit rfl ?_ | refine g_in_exit_ne (by decide) ?_ | refine g_seq ?_ | refine g_region ?_ | refine g_block ?_ | refine g_ret ?_ | refine g_return_n ?_ | refine g_exit ?_ | refine g_skip ?_)
  exact ret1 (K := [SetANS p ys, SetANS q ys]) rfl (resT rfl) ⟨q, rfl, rfl⟩
end Go.Proofs.Yteokgobeafnpoaa
/- What goals depend on: cut, cloned. -/
namespace Go.Proofs.Yteokgobeafnpoaa
open Go Go.Sl
attribute [local irreducible] Exit.then Exit.inBlock Code.wpIn roundPost bodyPostM runL Ret Meets MeetsD Begin

/-! ### Plain -/
def cutK (T : DpT) (lv k : Int) : Nat := if lv ≤ k then (T k).length else 0
def cutN (T : DpT) (lv : Int) : Nat := (lvls.map (cutK T lv)).sum
def cutZ (T : DpT) (lv : Int) (zs : List PgNN) : Nat := (zs.map fun p => cutK T lv p.k.n).sum
theorem sum_filter {α : Type} (p : α → Bool) (f : α → Nat) : ∀ (l : List α), (∀ a ∈ l, p a = false → f a = 0) → ((l.filter p).map f).sum = (l.map f).sum
  | [], _ => rfl
  | a :: l, h => by
    have ih := sum_filter p f l fun x hx => h x (List.mem_cons_of_mem _ hx)
    rw [List.filter_cons]
    cases e : p a with
    | true => simp [ih]
    | false => have := h a List.mem_cons_self e; simp [ih, this]
theorem DpsI.cutN {zs : List PgNN} {T : DpT} (h : DpsI zs T) (lv : Int) : cutZ T lv zs = Go.Proofs.Yteokgobeafnpoaa.cutN T lv := by
  unfold cutZ Go.Proofs.Yteokgobeafnpoaa.cutN
  rw [show (fun p : PgNN => cutK T lv p.k.n) = cutK T lv ∘ (fun p : PgNN => p.k.n) from rfl, ← List.map_map, h.keys]
  refine sum_filter _ _ _ fun k _ e => ?_
  unfold cutK
  split
  · simpa using e
  · rfl
theorem cutZ_snoc (T : DpT) (lv : Int) (pre : List PgNN) (x : PgNN) : cutZ T lv (pre ++ [x]) = cutZ T lv pre + cutK T lv x.k.n := by
  unfold cutZ; simp
theorem cutZ_le (T : DpT) (lv : Int) {B : Nat} (hb : ∀ j, (T j).length ≤ B) : ∀ zs : List PgNN, cutZ T lv zs ≤ zs.length * B
  | [] => by simp [cutZ]
  | x :: zs => by
    have ih := cutZ_le T lv hb zs
    have : cutZ T lv (x :: zs) = cutK T lv x.k.n + cutZ T lv zs := by simp [cutZ]
    have h2 : cutK T lv x.k.n ≤ B := by unfold cutK; split; exact hb _; omega
    rw [this, List.length_cons, Nat.succ_mul]; omega
/-- What is left of the list when the loop has passed pre. -/
def midD (lv : Int) (zs pre : List PgNN) : List PgNN := (pre.filter fun p => decide (p.k.n < lv)) ++ zs.drop pre.length
theorem midD_end (lv : Int) (zs : List PgNN) : midD lv zs zs = zs.filter fun p => decide (p.k.n < lv) := by unfold midD; simp
theorem drop_pre {α : Type} {zs pre : List α} {x : α} (h : (pre ++ [x]) <+: zs) : zs.drop pre.length = x :: zs.drop (pre ++ [x]).length := by
  obtain ⟨t, rfl⟩ := h
  rw [List.append_assoc, List.drop_left, ← List.append_assoc, List.drop_left]; rfl
theorem midD_keep {lv : Int} {zs pre : List PgNN} {x : PgNN} (h : (pre ++ [x]) <+: zs) (hx : x.k.n < lv) : midD lv zs (pre ++ [x]) = midD lv zs pre := by
  unfold midD
  rw [drop_pre h, List.filter_append]
  simp [hx]
theorem midD_sub {lv : Int} {zs pre : List PgNN} (h : pre <+: zs) : (midD lv zs pre).Sublist zs := by
  obtain ⟨t, rfl⟩ := h
  unfold midD
  rw [List.drop_left]
  exact List.Sublist.append List.filter_sublist (List.Sublist.refl t)
theorem srt_sub {α : Type} {f : α → α → Int} {zs us : List α} (hs : Srt f zs) (h : us.Sublist zs) : Srt f us := by
  refine srt_pw ?_
  refine List.Pairwise.sublist h (List.pairwise_iff_getElem.2 fun i j hi hj hij => ?_)
  exact hs i j _ _ hij (List.getElem?_eq_getElem hi) (List.getElem?_eq_getElem hj)
theorem midD_drop {lv : Int} {zs pre : List PgNN} {x : PgNN} (hs : Srt PgNN.cmp zs) (h : (pre ++ [x]) <+: zs) (hx : ¬ x.k.n < lv) : delC PgNN.cmp (midD lv zs pre) ⟨x.k, none⟩ = midD lv zs (pre ++ [x]) := by
  have hne : ∀ y ∈ zs, y.k = x.k → y = x := fun y hy e => hs.uniq PgNN.lin hy (h.subset (by simp)) (PgNN.cmp_iff.2 e)
  have hs' := hs
  unfold midD
  rw [drop_pre h]
  unfold delC
  rw [show (pre ++ [x]).filter (fun p => decide (p.k.n < lv)) = pre.filter (fun p => decide (p.k.n < lv)) by rw [List.filter_append]; simp [hx], List.filter_append, List.filter_cons, if_neg (by simp [PgNN.cmp_iff])]
  obtain ⟨t, rfl⟩ := h
  have hd : (pre ++ [x] ++ t).drop (pre ++ [x]).length = t := List.drop_left
  rw [hd]
  congr 1
  · rw [List.filter_eq_self]
    intro y hy
    obtain ⟨h1, h2⟩ := List.mem_filter.1 hy
    have : ¬ y.k = x.k := fun e => hx (by have := of_decide_eq_true h2; rwa [e] at this)
    simpa [PgNN.cmp_iff] using this
  · rw [List.filter_eq_self]
    intro y hy
    have : ¬ y.k = x.k := fun e => by
      have e2 := hne y (by simp [hy]) e
      subst e2
      obtain ⟨i, hi⟩ := List.mem_iff_getElem?.1 hy
      have h3 := hs' pre.length ((pre ++ [y]).length + i) y y (by simp; omega) (by rw [List.append_assoc, List.getElem?_append_right (Nat.le_refl _)]; simp) (by rw [List.getElem?_append_right (by omega)]; simpa using hi)
      have := PgNN.lin.refl y
      omega
    simpa [PgNN.cmp_iff] using this
theorem DropCMNN_spec (m : Nat) (zs : List PgNN) (k : NumD) (hs : Srt PgNN.cmp zs) (hl : zs.length < 1000000000) : Ctr Try.prog 39 [.pointer (some ⟨m, 0, none⟩), k.val] [MapANN m zs]
    (fun u M => M = [MapANN m (delC PgNN.cmp zs ⟨k, none⟩)]) := (DropMNN_spec m zs k hs hl).mono fun u M ⟨i, there, h1, h2, h3⟩ => by
  rw [h2, delC_of PgNN.lin hs h3]; rfl
theorem bigS_filter {α : Type} (p : α → Bool) (f : α → SProp) : ∀ (zs : List α), Ent (bigS zs f) (bigS (zs.filter p) f)
  | [] => Ent.refl _
  | a :: zs => by
    have ih := bigS_filter p f zs
    rw [List.filter_cons]
    cases p a with
    | true => exact (Ent.refl (f a)).star ih
    | false => exact (Ent.right (f a) (bigS zs f)).trans ih
theorem DpsI.cut {zs : List PgNN} {T : DpT} (h : DpsI zs T) (lv : Int) : DpsI (zs.filter fun p => decide (p.k.n < lv)) (cutD T lv) :=
  ⟨h.srt.filter _, fun p hp => h.ptr p (List.mem_filter.1 hp).1, fun j => by
    have e : hasC PgNN.cmp (zs.filter fun p => decide (p.k.n < lv)) ⟨⟨j⟩, none⟩ = true ↔ hasC PgNN.cmp zs ⟨⟨j⟩, none⟩ = true ∧ j < lv := by
      unfold hasC
      rw [List.any_eq_true, List.any_eq_true]
      constructor
      · rintro ⟨q, hq, hc⟩
        obtain ⟨h1, h2⟩ := List.mem_filter.1 hq
        have hc' : q.k = ⟨j⟩ := PgNN.cmp_iff.1 (of_decide_eq_true hc)
        have h2 := of_decide_eq_true h2
        rw [hc'] at h2
        exact ⟨⟨q, h1, hc⟩, h2⟩
      · rintro ⟨⟨q, hq, hc⟩, hlt⟩
        have hc' : q.k = ⟨j⟩ := PgNN.cmp_iff.1 (of_decide_eq_true hc)
        exact ⟨q, List.mem_filter.2 ⟨hq, by rw [hc']; exact decide_eq_true hlt⟩, hc⟩
    rw [e, h.has]
    unfold cutD
    constructor
    · rintro ⟨h1, h2⟩; rw [if_neg (by omega)]; exact h1
    · intro h1
      split at h1
      · exact absurd rfl h1
      · exact ⟨h1, by omega⟩, fun j hj => by
    unfold cutD at hj
    split at hj
    · exact absurd rfl hj
    · exact h.rng j hj, fun j => by
    unfold cutD; split
    · exact Srt.nil
    · exact h.tsr j⟩
/-! ### Cut -/
set_option maxHeartbeats 2000000 in
theorem CutDp_spec (d : Nat) (T : DpT) (lv : Int) (hb : ∀ j, (T j).length ≤ 1000000) :
    Ctr Try.prog 23 [.pointer (some ⟨d, 0, none⟩), .int .i64 lv] [DepP d T] (fun v M => v = .int .i64 (cutN T lv : Int) ∧ M = [DepP d (cutD T lv)]) := by
  refine spec_of Try.func23 rfl Try.ntmps23 rfl fun w0 F => ?_
  -- hide
  -- (*ponder/deps.Deps).Cut
  refine openDp d T fun m zs hi => ?_
  have hzl := hi.len
  repeat (first | refine g_endt ?_ | refine g_end ?_ | refine g_then ?_ | refine g_in_normal ?_ | refine g_then_ret ?_ | refine g_in_ret ?_ | refine g_then_exit ?_ | refine g_in_exit rfl ?_ | refine g_in_exit_ne (by decide) ?_ | refine g_seq ?_ | refine g_region ?_ | refine g_block ?_ | refine g_ret ?_ | refine g_return_n ?_ | refine g_exit ?_ | refine g_skip ?_)
  refine g_hideR fun Q_ hQ_ => ?_
  refine o_boxc #[.pointer (some ⟨d, 0, none⟩)] rfl rfl fun b1 => ?_
  refine o_boxc #[.int .i64 lv] rfl rfl fun b2 => ?_
  refine o_assign ?_
  refine g_end (G.imp (hQ_ .normal _) ?_)
  clear hQ_ Q_
  try refine g_then ?_
  repeat (first | refine g_endt ?_ | refine g_end ?_ | refine g_then ?_ | refine g_in_normal ?_ | refine g_then_ret ?_ | refine g_in_ret ?_ | refine g_then_exit ?_ | refine g_in_exit rfl ?_ | refine g_in_exit_ne (by decide) ?_ | refine g_seq ?_ | refine g_region ?_ | refine g_block ?_ | refine g_ret ?_ | refine g_return_n ?_ | refine g_exit ?_ | refine g_skip ?_)
  refine g_hideR fun Q_ hQ_ => ?_
  refine o_alloc fun c5 => ?_
  refine o_store (v := .int .i64 0) rfl rfl rfl rfl rfl ?_
  refine g_end (G.imp (hQ_ .normal _) ?_)
  clear hQ_ Q_
  try refine g_then ?_
  refine G.norm c5 #[.int .i64 0] rfl ?_
  repeat (first | refine g_endt ?_ | refine g_end ?_ | refine g_then ?_ | refine g_in_normal ?_ | refine g_then_ret ?_ | refine g_in_ret ?_ | refine g_then_exit ?_ | refine g_in_exit rfl ?_ | refine g_in_exit_ne (by decide) ?_ | refine g_seq ?_ | refine g_region ?_ | refine g_block ?_ | refine g_ret ?_ | refine g_return_n ?_ | refine g_exit ?_ | refine g_skip ?_)
  refine g_hideR fun Q_ hQ_ => ?_
  refine o_load1 (v := .pointer (some ⟨d, 0, none⟩)) rfl rfl ?_
  refine o_nil rfl ?_
  first | refine o_field rfl ?_ | refine o_fieldR rfl (by omega) ?_
  refine o_load1 (v := .pointer (some ⟨m, 0, none⟩)) rfl rfl ?_
  refine o_call (AllMNN_spec m) rfl rfl ?_
  rintro _ _ ⟨b3, rfl, rfl⟩
  refine g_end (G.imp (hQ_ .normal _) ?_)
  clear hQ_ Q_
  try refine g_then ?_
  have hz0 : midD lv zs [] = zs := by simp [midD]
  have hS0 : (cutZ T lv [] : Int) = 0 := rfl
  repeat (first | refine g_endt ?_ | refine g_end ?_ | refine g_then ?_ | refine g_in_normal ?_ | refine g_then_ret ?_ | refine g_in_ret ?_ | refine g_then_exit ?_ | refine g_in_exit rfl ?_ | refine g_in_exit_ne (by decide) ?_ | refine g_seq ?_ | refine g_region ?_ | refine g_block ?_ | refine g_ret ?_ | refine g_return_n ?_ | refine g_exit ?_ | refine g_skip ?_)
  refine g_range (ps := [13, 14]) (lb := [.pointer (some ⟨b3, 0, none⟩)]) (enc := PgNN.enc2) (xs := zs) rfl
    (fun pre => [cI1 c5 (cutZ T lv pre), MapANN m (midD lv zs pre), cellsB b1 #[.pointer (some ⟨d, 0, none⟩)] 24, cI1 b2 lv, pMn b3 m, dpC d m, bigS zs (cellD T)]) (fun _ _ => [pu False])
    (fun K => by rw [hz0]; exact AllM1NN_iter m b3 zs (by omega) _) (fun _ => rfl) (tk := by rw [hz0, hS0]; infer_instance) ?_ ?_ ?_
  · intro w0 F l r pre x hp
    have hxm : x ∈ zs := hp.subset (by simp)
    have hpl : pre.length ≤ zs.length := ((List.prefix_append pre [x]).trans hp).length_le
    have hsub := midD_sub (lv := lv) ((List.prefix_append pre [x]).trans hp)
    have hms := srt_sub hi.srt hsub
    have hml := hsub.length_le
    have hkeep := midD_keep (lv := lv) hp
    have hdrop := midD_drop (lv := lv) hi.srt hp
    have hsn := cutZ_snoc T lv pre x
    have hcl := cutZ_le T lv hb pre
    have hcl2 : cutZ T lv pre ≤ 7000000 := Nat.le_trans hcl (Nat.le_trans (Nat.mul_le_mul_right _ (Nat.le_trans hpl hzl)) (by decide))
    generalize cutZ T lv pre = N at hsn hcl2 ⊢
    generalize midD lv zs pre = us at hms hml hkeep hdrop ⊢
    obtain ⟨k, v⟩ := x
    cases v with
    | none => exact absurd rfl (hi.ptr _ hxm)
    | some b =>
      have hbk := hb k.n
      repeat (first | refine g_endt ?_ | refine g_end ?_ | refine g_then ?_ | refine g_in_normal ?_ | refine g_then_ret ?_ | refine g_in_ret ?_ | refine g_then_exit ?_ | refine g_in_exit rfl ?_ | refine g_in_exit_ne (by decide) ?_ | refine g_seq ?_ | refine g_region ?_ | refine g_block ?_ | refine g_ret ?_ | refine g_return_n ?_ | refine g_exit ?_ | refine g_skip ?_)
      refine g_hideR fun Q_ hQ_ => ?_
      refine o_assign ?_
      refine g_end (G.imp (hQ_ .normal _) ?_)
      clear hQ_ Q_
      try refine g_then ?_
      repeat (first | refine g_endt ?_ | refine g_end ?_ | refine g_then ?_ | refine g_in_normal ?_ | refine g_then_ret ?_ | refine g_in_ret ?_ | refine g_then_exit ?_ | refine g_in_exit rfl ?_ | refine g_in_exit_ne (by decide) ?_ | refine g_seq ?_ | refine g_region ?_ | refine g_block ?_ | refine g_ret ?_ | refine g_return_n ?_ | refine g_exit ?_ | refine g_skip ?_)
      refine g_hideR fun Q_ hQ_ => ?_
      refine o_assign ?_
      refine g_end (G.imp (hQ_ .normal _) ?_)
      clear hQ_ Q_
      try refine g_then ?_
      repeat (first | refine g_endt ?_ | refine g_end ?_ | refine g_then ?_ | refine g_in_normal ?_ | refine g_then_ret ?_ | refine g_in_ret ?_ | refine g_then_exit ?_ | refine g_in_exit rfl ?_ | refine g_in_exit_ne (by decide) ?_ | refine g_seq ?_ | refine g_region ?_ | refine g_block ?_ | refine g_ret ?_ | refine g_return_n ?_ | refine g_exit ?_ | refine g_skip ?_)
      refine g_begin ?_
      repeat (first | refine g_endt ?_ | refine g_end ?_ | refine g_then ?_ | refine g_in_normal ?_ | refine g_then_ret ?_ | refine g_in_ret ?_ | refine g_then_exit ?_ | refine g_in_exit rfl ?_ | refine g_in_exit_ne (by decide) ?_ | refine g_seq ?_ | refine g_region ?_ | refine g_block ?_ | refine g_ret ?_ | refine g_return_n ?_ | refine g_exit ?_ | refine g_skip ?_)
      refine g_hideR fun Q_ hQ_ => ?_
      refine o_move ?_
      refine o_load1 (v := .int .i64 lv) rfl rfl ?_
      refine o_geq (a := k.n) (b := lv) rfl rfl ?_
      refine g_end (G.imp (hQ_ .normal _) ?_)
      clear hQ_ Q_
      try refine g_then ?_
      by_cases hge : lv ≤ k.n
      · have hsn2 : cutZ T lv (pre ++ [⟨k, some b⟩]) = N + (T k.n).length := by rw [hsn]; unfold cutK; rw [if_pos hge]
        first | refine g_seq (g_cond_t rfl (by simpa using hge) ?_) | refine g_cond_t rfl (by simpa using hge) ?_
        obtain ⟨ws, hperm⟩ := mem_perm hxm
        refine G.bopen (ys := zs) (f := cellD T) ⟨k, some b⟩ ws hperm ?_
        change G _ _ (SetANS b (T k.n) :: _) _
        repeat (first | refine g_endt ?_ | refine g_end ?_ | refine g_then ?_ | refine g_in_normal ?_ | refine g_then_ret ?_ | refine g_in_ret ?_ | refine g_then_exit ?_ | refine g_in_exit rfl ?_ | refine g_in_exit_ne (by decide) ?_ | refine g_seq ?_ | refine g_region ?_ | refine g_block ?_ | refine g_ret ?_ | refine g_return_n ?_ | refine g_exit ?_ | refine g_skip ?_)
        refine g_hide fun Q_ hQ_ => ?_
        refine g_draw [2,4] [0,1,2,3,4] [cI1 c5 (N : Int)] mixed rfl ?_
        refine ob_q rfl rfl ⟨_, fun X Q h => o_load1 (v := .int .i64 (N : Int)) rfl rfl (g_end (h _ _ ⟨rfl, rfl⟩)), ?_⟩
        refine ob_q rfl rfl ⟨_, fun X Q h => o_move (g_end (h _ _ ⟨rfl, rfl⟩)), ?_⟩
        refine ob_l rfl rfl fun Qz hz => o_call (LenNS_spec b (T k.n)) rfl rfl ?_
        rintro _ _ ⟨rfl, rfl⟩
        refine g_end (hz _ _ ⟨_, ob_fin, ?_⟩)
        clear hz Qz
        refine ob_q rfl rfl ⟨_, fun X Q h => o_add (c := ((N + (T k.n).length : Nat) : Int)) rfl rfl (by omega) (by omega) (by omega) (g_end (h _ _ ⟨rfl, rfl⟩)), ?_⟩
        refine ob_s [] rfl rfl rfl fun Qz hz => o_store (v := .int .i64 ((N + (T k.n).length : Nat) : Int)) rfl rfl rfl rfl rfl ?_
        refine g_end (hz _ _ ⟨_, ob_fin, ?_⟩)
        clear hz Qz
        refine ob_nil ?_
        refine G.imp (hQ_ .normal _) ?_
        clear hQ_ Q_
        try refine g_then ?_
        refine G.norm c5 #[.int .i64 ((N + (T k.n).length : Nat) : Int)] rfl ?_
        refine G.bshut zs (cellD T) ⟨k, some b⟩ ws hperm.symm (tk := (inferInstance : Take _ [SetANS b (T k.n), bigS ws (cellD T)] _)) ?_
        repeat (first | refine g_endt ?_ | refine g_end ?_ | refine g_then ?_ | refine g_in_normal ?_ | refine g_then_ret ?_ | refine g_in_ret ?_ | refine g_then_exit ?_ | refine g_in_exit rfl ?_ | refine g_in_exit_ne (by decide) ?_ | refine g_seq ?_ | refine g_region ?_ | refine g_block ?_ | refine g_ret ?_ | refine g_return_n ?_ | refine g_exit ?_ | refine g_skip ?_)
        refine g_hideR fun Q_ hQ_ => ?_
        refine o_load1 (v := .pointer (some ⟨d, 0, none⟩)) rfl rfl ?_
        refine o_nil rfl ?_
        first | refine o_field rfl ?_ | refine o_fieldR rfl (by omega) ?_
        refine o_load1 (v := .pointer (some ⟨m, 0, none⟩)) rfl rfl ?_
        refine o_move ?_
        refine o_call (DropCMNN_spec m us k hms (by omega)) rfl rfl ?_
        rintro _ _ rfl
        refine g_end (G.imp (hQ_ .normal _) ?_)
        clear hQ_ Q_
        try refine g_then ?_
        rw [hdrop (show ¬ k.n < lv by omega), ← hsn2]
        repeat (first | refine g_endt ?_ | refine g_end ?_ | refine g_then ?_ | refine g_in_normal ?_ | refine g_then_ret ?_ | refine g_in_ret ?_ | refine g_then_exit ?_ | refine g_in_exit rfl ?_ | refine g_in_exit_ne (by decide) ?_ | refine g_seq ?_ | refine g_region ?_ | refine g_block ?_ | refine g_ret ?_ | refine g_return_n ?_ | refine g_exit ?_ | refine g_skip ?_)
        exact g_next
      · have hsn2 : cutZ T lv (pre ++ [⟨k, some b⟩]) = N := by rw [hsn]; unfold cutK; rw [if_neg hge]; rfl
        first | refine g_seq (g_cond_f rfl (by simpa using hge) ?_) | refine g_cond_f rfl (by simpa using hge) ?_
        rw [← hkeep (show k.n < lv by omega), ← hsn2]
        repeat (first | refine g_endt ?_ | refine g_end ?_ | refine g_then ?_ | refine g_in_normal ?_ | refine g_then_ret ?_ | refine g_in_ret ?_ | refine g_then_exit ?_ | refine g_in_exit rfl ?_ | refine g_in_exit_ne (by decide) ?_ | refine g_seq ?_ | refine g_region ?_ | refine g_block ?_ | refine g_ret ?_ | refine g_return_n ?_ | refine g_exit ?_ | refine g_skip ?_)
        exact g_next
  · intro D
    rw [midD_end, hi.cutN lv]
    refine G.ent (L' := [cI1 c5 (cutN T lv), MapANN m (zs.filter fun p => decide (p.k.n < lv)), cellsB b1 #[.pointer (some ⟨d, 0, none⟩)] 24, cI1 b2 lv, pMn b3 m, dpC d m, bigS (zs.filter fun p => decide (p.k.n < lv)) (cellD (cutD T lv))]) ?_ ?_
    · have e : bigS (zs.filter fun p => decide (p.k.n < lv)) (cellD (cutD T lv)) = bigS (zs.filter fun p => decide (p.k.n < lv)) (cellD T) := bigS_congr fun p hp => by
        have := of_decide_eq_true (List.mem_filter.1 hp).2
        unfold cellD cutD; rw [if_neg (by omega)]
      rw [e]
      exact (Ent.refl _).star ((Ent.refl _).star ((Ent.refl _).star ((Ent.refl _).star ((Ent.refl _).star ((Ent.refl _).star ((bigS_filter _ _ _).star (Ent.refl _)))))))
    refine shutDp d (cutD T lv) m (zs.filter fun p => decide (p.k.n < lv)) (hi.cut lv) ?_
    repeat (first | refine g_endt ?_ | refine g_end ?_ | refine g_then ?_ | refine g_in_normal ?_ | refine g_then_ret ?_ | refine g_in_ret ?_ | refine g_then_exit ?_ | refine g_in_exit rfl ?_ | refine g_in_exit_ne (by decide) ?_ | refine g_seq ?_ | refine g_region ?_ | refine g_block ?_ | refine g_ret ?_ | refine g_return_n ?_ | refine g_exit ?_ | refine g_skip ?_)
    refine g_hideR fun Q_ hQ_ => ?_
    refine o_load1 (v := .int .i64 (cutN T lv : Int)) rfl rfl ?_
    refine o_assign ?_
    refine g_end (G.imp (hQ_ .normal _) ?_)
    clear hQ_ Q_
    try refine g_then ?_
    repeat (first | refine g_endt ?_ | refine g_end ?_ | refine g_then ?_ | refine g_in_normal ?_ | refine g_then_ret ?_ | refine g_in_ret ?_ | refine g_then_exit ?_ | refine g_in_exit rfl ?_ | refine g_in_exit_ne (by decide) ?_ | refine g_seq ?_ | refine g_region ?_ | refine g_block ?_ | refine g_ret ?_ | refine g_return_n ?_ | refine g_exit ?_ | refine g_skip ?_)
    exact ret1 (K := [DepP d (cutD T lv)]) rfl (resT rfl) ⟨rfl, rfl⟩
  · intro D c pre hp
    exact G.pu fun h => h.elim
/-! ### Cloned -/
structure PreN (us pre : List PgNN) : Prop where
  keys : us.map PgNN.k = pre.map PgNN.k
  ptr : ∀ p ∈ us, p.v ≠ none
theorem PreN.nil : PreN [] [] := ⟨rfl, by simp⟩
theorem PreN.snoc {us pre : List PgNN} (h : PreN us pre) (k : NumD) (b : Nat) (v : Option Nat) : PreN (us ++ [⟨k, some b⟩]) (pre ++ [⟨k, v⟩]) :=
  ⟨by rw [List.map_append, List.map_append, h.keys]; rfl, fun p hp => by
    rcases List.mem_append.1 hp with hp | hp
    · exact h.ptr p hp
    · rw [List.mem_singleton] at hp; subst hp; simp⟩
theorem keysN_srt {us zs : List PgNN} (h : us.map PgNN.k = zs.map PgNN.k) (hs : Srt PgNN.cmp zs) : Srt PgNN.cmp us := by
  have h1 : Srt NumD.cmp (zs.map PgNN.k) := srt_map hs
  rw [← h] at h1
  intro i j a b hij ha hb
  exact h1 i j a.k b.k hij (by rw [List.getElem?_map, ha]; rfl) (by rw [List.getElem?_map, hb]; rfl)
theorem PreN.dps {us zs : List PgNN} {T : DpT} (h : PreN us zs) (hz : DpsI zs T) : DpsI us T :=
  ⟨keysN_srt h.keys hz.srt, h.ptr, fun s => by
    rw [← hz.has s]
    have : ∀ l : List PgNN, hasC PgNN.cmp l ⟨⟨s⟩, none⟩ = (l.map PgNN.k).any fun k => decide (k.cmp ⟨s⟩ = 0) := fun l => by
      unfold hasC; rw [List.any_map]; rfl
    rw [this, this, h.keys], hz.rng, hz.tsr⟩
theorem insN_last {α : Type} {f : α → α → Int} {l : List α} {a : α} (h : ∀ z ∈ l, f z a < 0) : insC f l a = l ++ [a] := by
  have tw : ∀ {l : List α}, (∀ z ∈ l, f z a < 0) → l.takeWhile (fun y => decide (f y a < 0)) = l ∧ l.dropWhile (fun y => decide (f y a < 0)) = [] := by
    intro l
    induction l with
    | nil => exact fun _ => ⟨rfl, rfl⟩
    | cons x l ih =>
      intro h
      obtain ⟨e1, e2⟩ := ih fun z hz => h z (List.mem_cons_of_mem _ hz)
      have hx := h x List.mem_cons_self
      rw [List.takeWhile_cons, List.dropWhile_cons, if_pos (by simpa using hx), if_pos (by simpa using hx), e1, e2]
      exact ⟨rfl, rfl⟩
  unfold insC
  have h1 : (l.any fun y => decide (f y a = 0)) = false := List.any_eq_false.2 fun y hy => by have := h y hy; simp; omega
  obtain ⟨h2, h3⟩ := tw h
  rw [h1, h2, h3]
  rfl
theorem putN_last {us pre zs : List PgNN} {k : NumD} {v : Option Nat} (h : PreN us pre) (hs : Srt PgNN.cmp zs) (hp : (pre ++ [⟨k, v⟩]) <+: zs) (b : Nat) : insC PgNN.cmp us ⟨k, some b⟩ = us ++ [⟨k, some b⟩] ∧ hasC PgNN.cmp us ⟨k, some b⟩ = false := by
  have hl : ∀ z ∈ us, PgNN.cmp z ⟨k, some b⟩ < 0 := fun z hz => by
    have h1 : z.k ∈ pre.map PgNN.k := by rw [← h.keys]; exact List.mem_map.2 ⟨z, hz, rfl⟩
    obtain ⟨y, hy, e⟩ := List.mem_map.1 h1
    show NumD.cmp z.k k < 0
    rw [← e]
    obtain ⟨t, rfl⟩ := hp
    obtain ⟨i, hi⟩ := List.mem_iff_getElem?.1 hy
    have hil := (List.getElem?_eq_some_iff.1 hi).1
    exact hs i pre.length y ⟨k, v⟩ hil (by rw [List.append_assoc, List.getElem?_append_left hil]; exact hi) (by rw [List.append_assoc, List.getElem?_append_right (Nat.le_refl _)]; simp)
  refine ⟨insN_last hl, ?_⟩
  unfold hasC
  rw [List.any_eq_false]
  intro z hz
  have := hl z hz
  simp; omega
theorem PutLMNN_spec (m : Nat) (us : List PgNN) (k : NumD) (b : Nat) (hs : Srt PgNN.cmp us) (hl : us.length < 999999999) (h : insC PgNN.cmp us ⟨k, some b⟩ = us ++ [⟨k, some b⟩] ∧ hasC PgNN.cmp us ⟨k, some b⟩ = false) :
    Ctr Try.prog 30 [.pointer (some ⟨m, 0, none⟩), k.val, .pointer (some ⟨b, 0, none⟩)] [MapANN m us] (fun u M => u = .bool true ∧ M = [MapANN m (us ++ [⟨k, some b⟩])]) := by
  rw [← h.1]; exact PutNMNN_spec m us k (some b) hs hl h.2
def PreDP (d m : Nat) (T : DpT) (pre : List PgNN) : SProp := ex fun us : List PgNN => sl [pu (PreN us pre), dpC d m, MapANN m us, bigS us (cellD T)]
section
variable {w0 : World} {A : SProp} {L M : List SProp} {Φ : World → Prop}
theorem openPreD (d m : Nat) (T : DpT) (pre : List PgNN) [tk : Take1 L (PreDP d m T pre) M] (h : ∀ us, PreN us pre → G w0 A (dpC d m :: MapANN m us :: bigS us (cellD T) :: M) Φ) : G w0 A L Φ :=
  G.perm tk.perm (G.ex fun us => G.open_sl (G.pu fun hi => h us hi))
theorem shutPreD (d m : Nat) (T : DpT) (pre us : List PgNN) (hi : PreN us pre) [tk : Take L [dpC d m, MapANN m us, bigS us (cellD T)] M] (h : G w0 A (PreDP d m T pre :: M) Φ) : G w0 A L Φ :=
  G.perm tk.perm (G.pu_in hi (G.ent (L := pu (PreN us pre) :: ([dpC d m, MapANN m us, bigS us (cellD T)] ++ M)) (L' := PreDP d m T pre :: M)
    ((sl_append_to [pu (PreN us pre), dpC d m, MapANN m us, bigS us (cellD T)] M).trans (Ent.star (show Ent _ (PreDP d m T pre) from fun _ _ x => ⟨us, x⟩) (Ent.refl _))) h))
end
abbrev cDp (c d : Nat) : SProp := cellsB c #[.pointer (some ⟨d, 0, none⟩)] 24
set_option maxHeartbeats 2000000 in
theorem CloneDp_spec (d : Nat) (T : DpT) : Ctr Try.prog 22 [.pointer (some ⟨d, 0, none⟩)] [DepP d T] (fun v M => ∃ c, v = .pointer (some ⟨c, 0, none⟩) ∧ M = [DepP d T, DepP c T]) := by
  refine spec_of Try.func22 rfl Try.ntmps22 rfl fun w0 F => ?_
  -- hide
  -- (*ponder/deps.Deps).Clone
  refine openDp d T fun m zs hi => ?_
  have hzl := hi.len
  repeat (first | refine g_endt ?_ | refine g_end ?_ | refine g_then ?_ | refine g_in_normal ?_ | refine g_then_ret ?_ | refine g_in_ret ?_ | refine g_then_exit ?_ | refine g_in_exit rfl ?_ | refine g_in_exit_ne (by decide) ?_ | refine g_seq ?_ | refine g_region ?_ | refine g_block ?_ | refine g_ret ?_ | refine g_return_n ?_ | refine g_exit ?_ | refine g_skip ?_)
  refine g_hideR fun Q_ hQ_ => ?_
  refine o_assign ?_
  refine g_end (G.imp (hQ_ .normal _) ?_)
  clear hQ_ Q_
  try refine g_then ?_
  repeat (first | refine g_endt ?_ | refine g_end ?_ | refine g_then ?_ | refine g_in_normal ?_ | refine g_then_ret ?_ | refine g_in_ret ?_ | refine g_then_exit ?_ | refine g_in_exit rfl ?_ | refine g_in_exit_ne (by decide) ?_ | refine g_seq ?_ | refine g_region ?_ | refine g_block ?_ | refine g_ret ?_ | refine g_return_n ?_ | refine g_exit ?_ | refine g_skip ?_)
  refine g_hideR fun Q_ hQ_ => ?_
  refine o_call (NewDp_spec) rfl rfl ?_
  rintro _ _ ⟨c, rfl, rfl⟩
  refine o_alloc fun c3 => ?_
  refine o_store (v := .pointer (some ⟨c, 0, none⟩)) rfl rfl rfl rfl rfl ?_
  refine g_end (G.imp (hQ_ .normal _) ?_)
  clear hQ_ Q_
  try refine g_then ?_
  refine G.norm c3 #[.pointer (some ⟨c, 0, none⟩)] rfl ?_
  repeat (first | refine g_endt ?_ | refine g_end ?_ | refine g_then ?_ | refine g_in_normal ?_ | refine g_then_ret ?_ | refine g_in_ret ?_ | refine g_then_exit ?_ | refine g_in_exit rfl ?_ | refine g_in_exit_ne (by decide) ?_ | refine g_seq ?_ | refine g_region ?_ | refine g_block ?_ | refine g_ret ?_ | refine g_return_n ?_ | refine g_exit ?_ | refine g_skip ?_)
  refine g_hideR fun Q_ hQ_ => ?_
  refine o_move ?_
  refine o_nil rfl ?_
  first | refine o_field rfl ?_ | refine o_fieldR rfl (by omega) ?_
  refine o_load1 (v := .pointer (some ⟨m, 0, none⟩)) rfl rfl ?_
  refine o_call (AllMNN_spec m) rfl rfl ?_
  rintro _ _ ⟨b3, rfl, rfl⟩
  refine g_end (G.imp (hQ_ .normal _) ?_)
  clear hQ_ Q_
  try refine g_then ?_
  refine openDp c dp0 fun mc z0 hi0 => ?_
  have hz0 : z0 = [] := by
    cases z0 with
    | nil => rfl
    | cons p l => exact absurd rfl (hi0.mem.1 ⟨p, List.mem_cons_self, rfl⟩)
  subst hz0
  refine G.bnil (cellD T) ?_
  refine shutPreD c mc T [] [] PreN.nil ?_
  repeat (first | refine g_endt ?_ | refine g_end ?_ | refine g_then ?_ | refine g_in_normal ?_ | refine g_then_ret ?_ | refine g_in_ret ?_ | refine g_then_exit ?_ | refine g_in_exit rfl ?_ | refine g_in_exit_ne (by decide) ?_ | refine g_seq ?_ | refine g_region ?_ | refine g_block ?_ | refine g_ret ?_ | refine g_return_n ?_ | refine g_exit ?_ | refine g_skip ?_)
  refine g_range (ps := [12, 13]) (lb := [.pointer (some ⟨b3, 0, none⟩)]) (enc := PgNN.enc2) (xs := zs) rfl
    (fun pre => [PreDP c mc T pre, cDp c3 c, pMn b3 m, dpC d m, MapANN m zs, bigS zs (cellD T)]) (fun _ _ => [pu False])
    (fun K => AllM1NN_iter m b3 zs (by omega) _) (fun _ => rfl) ?_ ?_ ?_
  · intro w0 F l r pre x hp
    have hlen : pre.length < zs.length := by
      obtain ⟨t, ht⟩ := hp
      have := congrArg List.length ht
      simp at this
      omega
    have hxm : x ∈ zs := hp.subset (by simp)
    obtain ⟨k, v⟩ := x
    cases v with
    | none => exact absurd rfl (hi.ptr _ hxm)
    | some b =>
      obtain ⟨ws, hperm⟩ := mem_perm hxm
      refine openPreD c mc T pre fun us hu => ?_
      have hul : us.length = pre.length := by rw [← List.length_map (f := PgNN.k), hu.keys, List.length_map]
      have hus := keysN_srt hu.keys (srt_sub hi.srt ((List.prefix_append pre [⟨k, some b⟩]).trans hp).sublist)
      refine G.bopen (ys := zs) (f := cellD T) ⟨k, some b⟩ ws hperm ?_
      change G _ _ (SetANS b (T k.n) :: _) _
      repeat (first | refine g_endt ?_ | refine g_end ?_ | refine g_then ?_ | refine g_in_normal ?_ | refine g_then_ret ?_ | refine g_in_ret ?_ | refine g_then_exit ?_ | refine g_in_exit rfl ?_ | refine g_in_exit_ne (by decide) ?_ | refine g_seq ?_ | refine g_region ?_ | refine g_block ?_ | refine g_ret ?_ | refine g_return_n ?_ | refine g_exit ?_ | refine g_skip ?_)
      refine g_hideR fun Q_ hQ_ => ?_
      refine o_assign ?_
      refine g_end (G.imp (hQ_ .normal _) ?_)
      clear hQ_ Q_
      try refine g_then ?_
      repeat (first | refine g_endt ?_ | refine g_end ?_ | refine g_then ?_ | refine g_in_normal ?_ | refine g_then_ret ?_ | refine g_in_ret ?_ | refine g_then_exit ?_ | refine g_in_exit rfl ?_ | refine g_in_exit_ne (by decide) ?_ | refine g_seq ?_ | refine g_region ?_ | refine g_block ?_ | refine g_ret ?_ | refine g_return_n ?_ | refine g_exit ?_ | refine g_skip ?_)
      refine g_hideR fun Q_ hQ_ => ?_
      refine o_assign ?_
      refine g_end (G.imp (hQ_ .normal _) ?_)
      clear hQ_ Q_
      try refine g_then ?_
      repeat (first | refine g_endt ?_ | refine g_end ?_ | refine g_then ?_ | refine g_in_normal ?_ | refine g_then_ret ?_ | refine g_in_ret ?_ | refine g_then_exit ?_ | refine g_in_exit rfl ?_ | refine g_in_exit_ne (by decide) ?_ | refine g_seq ?_ | refine g_region ?_ | refine g_block ?_ | refine g_ret ?_ | refine g_return_n ?_ | refine g_exit ?_ | refine g_skip ?_)
      refine g_begin ?_
      repeat (first | refine g_endt ?_ | refine g_end ?_ | refine g_then ?_ | refine g_in_normal ?_ | refine g_then_ret ?_ | refine g_in_ret ?_ | refine g_then_exit ?_ | refine g_in_exit rfl ?_ | refine g_in_exit_ne (by decide) ?_ | refine g_seq ?_ | refine g_region ?_ | refine g_block ?_ | refine g_ret ?_ | refine g_return_n ?_ | refine g_exit ?_ | refine g_skip ?_)
      refine g_hide fun Q_ hQ_ => ?_
      refine g_draw [6,7] [0,1,2,3,4,5,6,7] [cDp c3 c, dpC c mc] mixed rfl ?_
      refine ob_q rfl rfl ⟨_, fun X Q h => o_load1 (v := .pointer (some ⟨c, 0, none⟩)) rfl rfl (g_end (h _ _ ⟨rfl, rfl⟩)), ?_⟩
      refine ob_q rfl rfl ⟨_, fun X Q h => o_nil rfl (g_end (h _ _ ⟨rfl, rfl⟩)), ?_⟩
      first | refine ob_q rfl rfl ⟨_, fun X Q h => o_field rfl (g_end (h _ _ ⟨rfl, rfl⟩)), ?_⟩ | refine ob_q rfl rfl ⟨_, fun X Q h => o_fieldR rfl (by omega) (g_end (h _ _ ⟨rfl, rfl⟩)), ?_⟩
      refine ob_q rfl rfl ⟨_, fun X Q h => o_load1 (v := .pointer (some ⟨mc, 0, none⟩)) rfl rfl (g_end (h _ _ ⟨rfl, rfl⟩)), ?_⟩
      refine ob_q rfl rfl ⟨_, fun X Q h => o_move (g_end (h _ _ ⟨rfl, rfl⟩)), ?_⟩
      refine ob_q rfl rfl ⟨_, fun X Q h => o_move (g_end (h _ _ ⟨rfl, rfl⟩)), ?_⟩
      refine ob_l rfl rfl fun Qz hz => o_call (CloneNS_spec b (T k.n)) rfl rfl ?_
      rintro _ _ ⟨b', rfl, rfl⟩
      refine g_end (hz _ _ ⟨_, ob_fin, ?_⟩)
      clear hz Qz
      refine ob_l rfl rfl fun Qz hz => o_call (PutLMNN_spec mc us k b' hus (by omega) (putN_last hu hi.srt hp b')) rfl rfl ?_
      rintro _ _ ⟨rfl, rfl⟩
      refine g_end (hz _ _ ⟨_, ob_fin, ?_⟩)
      clear hz Qz
      refine ob_nil ?_
      refine G.imp (hQ_ .normal _) ?_
      clear hQ_ Q_
      try refine g_then ?_
      refine G.bshut zs (cellD T) ⟨k, some b⟩ ws hperm.symm (tk := (inferInstance : Take _ [SetANS b (T k.n), bigS ws (cellD T)] _)) ?_
      refine G.bshut (us ++ [⟨k, some b'⟩]) (cellD T) ⟨k, some b'⟩ us (List.perm_append_comm (l₁ := [(⟨k, some b'⟩ : PgNN)])) (tk := (inferInstance : Take _ [SetANS b' (T k.n), bigS us (cellD T)] _)) ?_
      refine shutPreD c mc T (pre ++ [⟨k, some b⟩]) (us ++ [⟨k, some b'⟩]) (hu.snoc k b' (some b)) ?_
      repeat (first | refine g_endt ?_ | refine g_end ?_ | refine g_then ?_ | refine g_in_normal ?_ | refine g_then_ret ?_ | refine g_in_ret ?_ | refine g_then_exit ?_ | refine g_in_exit rfl ?_ | refine g_in_exit_ne (by decide) ?_ | refine g_seq ?_ | refine g_region ?_ | refine g_block ?_ | refine g_ret ?_ | refine g_return_n ?_ | refine g_exit ?_ | refine g_skip ?_)
      exact g_next
  · intro D
    refine openPreD c mc T zs fun us1 hu1 => ?_
    refine shutDp c T mc us1 (hu1.dps hi) ?_
    refine shutDp d T m zs hi ?_
    repeat (first | refine g_endt ?_ | refine g_end ?_ | refine g_then ?_ | refine g_in_normal ?_ | refine g_then_ret ?_ | refine g_in_ret ?_ | refine g_then_exit ?_ | refine g_in_exit rfl ?_ | refine g_in_exit_ne (by decide) ?_ | refine g_seq ?_ | refine g_region ?_ | refine g_block ?_ | refine g_ret ?_ | refine g_return_n ?_ | refine g_exit ?_ | refine g_skip ?_)
    refine g_hideR fun Q_ hQ_ => ?_
    refine o_load1 (v := .pointer (some ⟨c, 0, none⟩)) rfl rfl ?_
    refine o_assign ?_
    refine g_end (G.imp (hQ_ .normal _) ?_)
    clear hQ_ Q_
    try refine g_then ?_
    repeat (first | refine g_endt ?_ | refine g_end ?_ | refine g_then ?_ | refine g_in_normal ?_ | refine g_then_ret ?_ | refine g_in_ret ?_ | refine g_then_exit ?_ | refine g_in_exit rfl ?_ | refine g_in_exit_ne (by decide) ?_ | refine g_seq ?_ | refine g_region ?_ | refine g_block ?_ | refine g_ret ?_ | refine g_return_n ?_ | refine g_exit ?_ | refine g_skip ?_)
    exact ret1 (K := [DepP d T, DepP c T]) rfl (resT rfl) ⟨c, rfl, rfl⟩
  · intro D c' pre hp
    exact G.pu fun h => h.elim
end Go.Proofs.Yteokgobeafnpoaa
/- Rows of rows. Plain library, no program in sight. -/
namespace Go.Sl
open Go Go.Proofs

/-- A row among rows: where it lies, and what it reads as. -/
structure RowG (α : Type) where
  a : Option Addr
  len : Nat
  cap : Nat
  zs : List α
def encRG {α : Type} (r : RowG α) : List Value := [.slice r.a r.len r.cap]
instance {α : Type} : EncLen (encRG (α := α)) 1 := ⟨fun _ => rfl, fun _ u h => by simp [encRG] at h; subst h; rfl⟩
/-- What each row reads as, for ever. -/
def prowsG {α : Type} (enc : α → List Value) (sz : Nat) (rs : List (RowG α)) : SProp := ⟨fun B _ => ∀ r ∈ rs, rdE r.a enc sz r.zs B, fun l _ h r hr => (h r hr).le l⟩
instance {α : Type} {enc : α → List Value} {sz : Nat} {rs : List (RowG α)} : Pers (prowsG enc sz rs) := ⟨fun _ _ x => x⟩
theorem G.rowG {w0 : World} {A : SProp} {L M : List SProp} {Φ : World → Prop} {α : Type} {enc : α → List Value} {sz : Nat} {rs : List (RowG α)} {r : RowG α} [tk : Take1 L (prowsG enc sz rs) M] (hr : r ∈ rs) (h : G w0 A (psl enc sz r.a r.zs :: L) Φ) : G w0 A L Φ := by
  refine G.ent (L' := psl enc sz r.a r.zs :: L) ?_ h
  refine (sl_perm tk.perm).trans (Ent.trans ?_ ((Ent.refl _).star (sl_perm tk.perm.symm)))
  exact fun B k ⟨k1, k2, d, l1, l2, x, y⟩ => ⟨hnil, k, (Dj.nil _).symm, .nil _, .refl _, x r hr, k1, k2, d, l1, l2, x, y⟩
theorem holds_rowsG {α : Type} {enc : α → List Value} {sz : Nat} {W : World} {K : List SProp} {rs : List (RowG α)} (h : holds (star (whole W) (sl K)) W) (r : ∀ q ∈ rs, rdE q.a enc sz q.zs (hp W)) : holds (star (whole W) (sl (prowsG enc sz rs :: K))) W := by
  obtain ⟨B, k, d, l, m, k1, k2, d12, l1, l2, x, y⟩ := h
  exact ⟨B, k, d, l, m, k1, k2, d12, l1, l2, x, hnil, k2, (Dj.nil _).symm, .nil _, .refl _, fun q hq => rdE.le (r q hq) x, y⟩
end Go.Sl
/- A place in an array; rows that are kept one by one. Plain library, no program in sight. -/
namespace Go.Sl
open Go Go.Proofs
section
variable {w0 : World} {A : SProp} {ro : Option Nat} {P : Program} {n : Nat} {ρ : Nat → Value} {ds : List Nat} {all : Array Oper} {d : Option Tmp} {ty : TypeId} {pos : String} {af : Array Edge}
theorem o_arr {Q : Exit → Act → World → Prop} {os : List Oper} {L : List SProp} {x y : Operand} {t : TypeId} (e : TypeId) (len sz : Nat) {b k i : Nat} {kd : IntKind} {m : Int} (hx : ev n ρ x = .pointer (some ⟨b, k, none⟩)) (hy : ev n ρ y = .int kd m) (hm : m = (i : Int)) (hi : i < len) (ht : P.underlying t = some (.array len e)) (hs : ∀ w, (sizeOf e).run P w = .ok sz w)
    (h : G w0 A L (fun w => runL ro P all Q os (act n (updo ρ d (.pointer (some ⟨b, k + i * sz, none⟩))) ds) w)) :
    G w0 A L (fun w => runL ro P all Q ({ dst := d, op := .indexAddr t x y, type := ty, pos := pos, after := af, guard := none } :: os) (act n ρ ds) w) :=
  o_val rfl (by intro c e; cases e) (fun w _ _ => by
    simp only [execOp]
    refine run_v ?_
    rw [hx, hy]
    have h1 : (0 : Int) ≤ m ∧ m < (len : Int) := by omega
    have h2 : m.toNat = i := by omega
    simp [Instr.indexAt, asIntOf, run_underlying ht, h1.1, h1.2, h2, hs, add_off, Instr.sureAddr]) h
end
theorem sto_set (l : List Value) (i : Nat) (v : Value) (hi : i < l.length) : sto l.toArray (0 + i * 1) #[v] = (l.set i v).toArray := by
  unfold sto
  simp only [Nat.zero_add, Nat.mul_one, List.length_cons, List.length_nil]
  rw [List.set_eq_take_append_cons_drop, if_pos hi]
  simp
/-- Where a row lies. -/
def RowG.val {α : Type} (q : RowG α) : Value := .slice q.a q.len q.cap
theorem G.rowSet {w0 : World} {A : SProp} {L M : List SProp} {Φ : World → Prop} {α : Type} {enc : α → List Value} {sz : Nat} {rs : List (RowG α)} (i : Nat) (q : RowG α) [tk : Take L [prowsG enc sz rs, psl enc sz q.a q.zs] M] (h : G w0 A (prowsG enc sz (rs.set i q) :: M) Φ) : G w0 A L Φ := by
  refine G.perm tk.perm (G.ent (L := [prowsG enc sz rs, psl enc sz q.a q.zs] ++ M) (L' := prowsG enc sz (rs.set i q) :: M) ?_ h)
  rintro B k ⟨k1, k2, d, l1, l2, x, k3, k4, d2, l3, l4, y, z⟩
  refine ⟨hnil, k, (Dj.nil _).symm, .nil _, .refl _, fun r hr => ?_, (sl M).mono (Le.refl _) (l4.trans l2) z⟩
  rcases List.mem_or_eq_of_mem_set hr with h | h
  · exact x r h
  · subst h; exact y
theorem G.rowNil {w0 : World} {A : SProp} {L : List SProp} {Φ : World → Prop} {α : Type} (enc : α → List Value) (sz : Nat) (n : Nat) (h : G w0 A (prowsG enc sz (List.replicate n (⟨none, 0, 0, []⟩ : RowG α)) :: L) Φ) : G w0 A L Φ := by
  refine G.ent (L := L) (L' := prowsG enc sz (List.replicate n (⟨none, 0, 0, []⟩ : RowG α)) :: L) ?_ h
  intro B k x
  refine ⟨hnil, k, (Dj.nil _).symm, .nil _, .refl _, fun r hr => ?_, x⟩
  have := (List.mem_replicate.1 hr).2
  subst this
  intro i y hy
  simp at hy
theorem G.psl_nil {w0 : World} {A : SProp} {L : List SProp} {Φ : World → Prop} {α : Type} (enc : α → List Value) (sz : Nat) (h : G w0 A (psl enc sz none ([] : List α) :: L) Φ) : G w0 A L Φ := by
  refine G.ent (L := L) (L' := psl enc sz none ([] : List α) :: L) ?_ h
  intro B k x
  refine ⟨hnil, k, (Dj.nil _).symm, .nil _, .refl _, fun i y hy => ?_, x⟩
  simp at hy
end Go.Sl
/- A floating cell. Plain library, no program in sight. -/
namespace Go.Sl
open Go Go.Proofs

section
variable {w0 : World} {A : SProp} {ro : Option Nat} {P : Program} {all : Array Oper} {n : Nat} {ρ : Nat → Value} {ds : List Nat} {d : Option Tmp} {ty : TypeId} {pos : String} {af : Array Edge}
/-- A floating cell: what is said of it. -/
theorem fl_alloc {t : TypeId} {z : Value} [tz : TyZ P t z] {Lq : List SProp} (X : List SProp) :
    OStep w0 A ro P all n ds ρ (Lq ++ X) { dst := d, op := .alloc t, type := ty, pos := pos, after := af, guard := none }
      (fun v M => ∃ M', Ent (sl M) (sl (Lq ++ (X ++ M'))) ∧ ∃ b, v = .pointer (some ⟨b, 0, none⟩) ∧ M' = [cellsB b z.cells t]) := fun Q h =>
  o_alloc fun b => g_end (h _ _ ⟨[cellsB b z.cells t], sl_perm (by
    rw [← List.append_assoc]
    exact List.perm_append_comm (l₁ := [cellsB b z.cells t]) (l₂ := Lq ++ X)), b, rfl, rfl⟩)
theorem o_mul {Q : Exit → Act → World → Prop} {os : List Oper} {L : List SProp} {x y : Operand} {xt yt : TypeId} {a b c : Int} (hx : ev n ρ x = .int .i64 a) (hy : ev n ρ y = .int .i64 b) (hc : a * b = c) (h1 : -9223372036854775808 ≤ c) (h2 : c ≤ 9223372036854775807)
    (h : G w0 A L (fun w => runL ro P all Q os (act n (updo ρ d (.int .i64 c)) ds) w)) :
    G w0 A L (fun w => runL ro P all Q ({ dst := d, op := .binOp .mul xt x y yt, type := ty, pos := pos, after := af, guard := none } :: os) (act n ρ ds) w) :=
  o_mulw hx hy (by rw [hc, IntWalk.i64_in c ⟨h1, h2⟩]; exact h)
theorem o_eqlT {Q : Exit → Act → World → Prop} {os : List Oper} {L : List SProp} {x y : Operand} {xt yt : TypeId} {k : IntKind} {a b : Int} {t : Bool} (hx : ev n ρ x = .int k a) (hy : ev n ρ y = .int k b) (ht : (a == b) = t)
    (h : G w0 A L (fun w => runL ro P all Q os (act n (updo ρ d (.bool t)) ds) w)) :
    G w0 A L (fun w => runL ro P all Q ({ dst := d, op := .binOp .eql xt x y yt, type := ty, pos := pos, after := af, guard := none } :: os) (act n ρ ds) w) :=
  o_eql hx hy (by rw [ht]; exact h)
theorem o_neqT {Q : Exit → Act → World → Prop} {os : List Oper} {L : List SProp} {x y : Operand} {xt yt : TypeId} {k : IntKind} {a b : Int} {t : Bool} (hx : ev n ρ x = .int k a) (hy : ev n ρ y = .int k b) (ht : (a != b) = t)
    (h : G w0 A L (fun w => runL ro P all Q os (act n (updo ρ d (.bool t)) ds) w)) :
    G w0 A L (fun w => runL ro P all Q ({ dst := d, op := .binOp .neq xt x y yt, type := ty, pos := pos, after := af, guard := none } :: os) (act n ρ ds) w) :=
  o_neq hx hy (by rw [ht]; exact h)
end
end Go.Sl
