/- A region that draws its order, with operations that float: they take nothing but what is read, and what they make is had later. Plain library, no program in sight. -/
import Derived.Test.YtlognaddmbolgaaSl8
namespace Go.Sl
open Go Go.Proofs

/-- What the walk does: an operation; a floating one told; what it made, had. -/
inductive It where
  | op (i : Nat)
  | dec (i : Nat)
  | join (i : Nat)
def It.ix : It → Nat
  | .op i => i
  | .dec i => i
  | .join i => i
def It.isJ : It → Bool
  | .join _ => true
  | _ => false
abbrev Kd := Value → List SProp → Prop
/-- The order in which the walk takes the operations. -/
def okOrderF (lou : List Nat) (b : List Nat) : List It → Bool
  | [] => true
  | .op i :: π => (!lou.contains i || π.all fun y => y.isJ || isAnc b y.ix i) && (π.all fun y => !isAnc b i y.ix) && (π.all fun y => y.ix != i) && okOrderF lou b π
  | .dec i :: π => (π.any fun y => y.isJ && y.ix == i) && (π.all fun y => !isAnc b i y.ix) && (π.all fun y => y.isJ || y.ix != i) && okOrderF lou b π
  | .join i :: π => (π.all fun y => y.isJ || isAnc b y.ix i) && (π.all fun y => !y.isJ || y.ix != i) && okOrderF lou b π
def okPermF (m : Nat) (π : List It) : Bool := ((π.filter fun y => !y.isJ).length == m) && ((List.range m).all fun i => π.any fun y => !y.isJ && y.ix == i) && (π.all fun y => Nat.blt y.ix m)
def okSyncF (b : List Nat) (m i : Nat) (π : List It) : Bool := (List.range m).all fun j => (π.any fun y => !y.isJ && y.ix == j) || (j == i || isAnc b i j)

def ObF (w0 : World) (A : SProp) (ro : Option Nat) (P : Program) (l : List Oper) (n : Nat) (ds : List Nat) (lou : List Nat) (K : (Nat → Value) → List SProp → Prop) : List It → List (Nat × Kd) → List SProp → (Nat → Value) → List SProp → Prop
  | [], _, Lq, ρ, Lp => K ρ (Lq ++ Lp)
  | .op i :: π, D, Lq, ρ, Lp => match l[i]? with
    | none => False
    | some o => if lou.contains i then
        ∀ X, OStep w0 (star A X) ro P l.toArray n ds ρ (Lq ++ Lp) o (fun v M => ∃ Lq' Lp', Ent (sl M) (sl (Lq' ++ Lp')) ∧ (Lq' = Lq ∨ okSyncF (masks l []) l.length i π = true) ∧ ObF w0 A ro P l n ds lou K π D Lq' (updo ρ o.dst v) Lp')
      else ∃ v, (∀ X, OStep w0 A ro P l.toArray n ds ρ (Lq ++ X) o (fun u M => u = v ∧ M = Lq ++ X)) ∧ ObF w0 A ro P l n ds lou K π D Lq (updo ρ o.dst v) Lp
  | .dec i :: π, D, Lq, ρ, Lp => match l[i]? with
    | none => False
    | some o => ∃ R : Kd, (∀ X, OStep w0 A ro P l.toArray n ds ρ (Lq ++ X) o (fun v M => ∃ M', Ent (sl M) (sl (Lq ++ (X ++ M'))) ∧ R v M')) ∧ ObF w0 A ro P l n ds lou K π ((i, R) :: D) Lq ρ Lp
  | .join i :: π, D, Lq, ρ, Lp => match l[i]? with
    | none => False
    | some o => ∃ R : Kd, (i, R) ∈ D ∧ ∀ v M, R v M → ObF w0 A ro P l n ds lou K π D Lq (updo ρ o.dst v) (M ++ Lp)

/-- Walked and not run: with the value it will have, or with what will be said of what it makes. -/
abbrev Pe := Nat × (Nat → Value) × (Value ⊕ Kd)
/-- Run, and not had yet. -/
abbrev Ee := Nat × Value × List SProp × Kd
def earV (l : List Oper) (ear : List Ee) (t : Nat) : Option Value := (ear.find? (fun e => dstAt l e.1 == some t)).map (·.2.1)
def EL (ear : List Ee) : List SProp := ear.flatMap (·.2.2.1)
def curF (l : List Oper) (ρ0 : Nat → Value) (pend : List Pe) (ear : List Ee) (ρf : Nat → Value) : Nat → Value := fun t => match earV l ear t with
  | some v => v
  | none => cond (pend.any (fun p => dstAt l p.1 == some t)) (ρ0 t) (ρf t)
theorem earV_some {l : List Oper} {ear : List Ee} {t : Nat} {v : Value} (h : earV l ear t = some v) : ∃ e ∈ ear, dstAt l e.1 = some t ∧ e.2.1 = v := by
  unfold earV at h
  rw [Option.map_eq_some_iff] at h
  obtain ⟨e, he, hv⟩ := h
  exact ⟨e, List.mem_of_find?_eq_some he, by simpa using List.find?_some he, hv⟩
theorem earV_none {l : List Oper} {ear : List Ee} {t : Nat} (h : ∀ e ∈ ear, dstAt l e.1 ≠ some t) : earV l ear t = none := by
  unfold earV
  rw [Option.map_eq_none_iff, List.find?_eq_none]
  intro e he
  simpa using h e he
theorem earV_drop {l : List Oper} {ea eb : List Ee} {e : Ee} {t : Nat} (h : dstAt l e.1 ≠ some t) : earV l (ea ++ e :: eb) t = earV l (ea ++ eb) t := by
  unfold earV
  congr 1
  rw [List.find?_append, List.find?_append, List.find?_cons]
  have : (dstAt l e.1 == some t) = false := by simpa using h
  rw [this]
theorem earV_cons {l : List Oper} {ear : List Ee} {e : Ee} {t : Nat} (h : dstAt l e.1 ≠ some t) : earV l (e :: ear) t = earV l ear t := earV_drop (ea := []) h
theorem earV_head {l : List Oper} {ear : List Ee} {e : Ee} {t : Nat} (h : dstAt l e.1 = some t) : earV l (e :: ear) t = some e.2.1 := by
  unfold earV
  rw [List.find?_cons]
  simp [h]

section
variable {w0 : World} {A : SProp} {ro : Option Nat} {P : Program} {n : Nat} {ds : List Nat}
structure InvF (w0 : World) (A : SProp) (ro : Option Nat) (P : Program) (l : List Oper) (n : Nat) (ds : List Nat) (b : List Nat) (Lq : List SProp) (ρ0 : Nat → Value) (listed : Array Bool) (π : List It) (D : List (Nat × Kd)) (pend : List Pe) (ear : List Ee) (ρf : Nat → Value) : Prop where
  sz : listed.size = l.length
  inπ : ∀ x ∈ π, x.isJ = false → x.ix < l.length ∧ listed.getD x.ix false = false ∧ ∀ p ∈ pend, p.1 ≠ x.ix
  inP : ∀ p ∈ pend, p.1 < l.length ∧ listed.getD p.1 false = false
  inE : ∀ e ∈ ear, e.1 < l.length ∧ listed.getD e.1 false = true ∧ It.join e.1 ∈ π ∧ e.2.2.2 e.2.1 e.2.2.1
  all : ∀ j, j < l.length → listed.getD j false = true ∨ (∃ p ∈ pend, p.1 = j) ∨ ∃ x ∈ π, x.isJ = false ∧ x.ix = j
  nP : (pend.map (·.1)).Nodup
  nE : (ear.map (·.1)).Nodup
  closed : ∀ i j, listed.getD i false = true → isAnc b i j = true → j < l.length → listed.getD j false = true
  base : ∀ t, (∀ j, j < l.length → (∀ x ∈ π, x.ix ≠ j) → dstAt l j ≠ some t) → ρf t = ρ0 t
  pa : ∀ p ∈ pend, ∀ x ∈ π, isAnc b p.1 x.ix = false
  pq : ∀ p ∈ pend, ∀ o, l[p.1]? = some o → (match p.2.2 with
      | .inl v => (∀ X, OStep w0 A ro P l.toArray n ds p.2.1 (Lq ++ X) o (fun u M => u = v ∧ M = Lq ++ X)) ∧ (∀ d, o.dst = some d → ρf d = v)
      | .inr R => (∀ X, OStep w0 A ro P l.toArray n ds p.2.1 (Lq ++ X) o (fun v M => ∃ M', Ent (sl M) (sl (Lq ++ (X ++ M'))) ∧ R v M')) ∧ It.join p.1 ∈ π) ∧
    ∀ t ∈ o.looksAt l.toArray, ((∃ j, j < l.length ∧ isAnc b p.1 j = true ∧ dstAt l j = some t) → p.2.1 t = ρf t) ∧ ((∀ j, j < l.length → isAnc b p.1 j = true → dstAt l j ≠ some t) → p.2.1 t = ρ0 t)
  dl : ∀ q ∈ D, (∃ p ∈ pend, p.1 = q.1 ∧ p.2.2 = .inr q.2) ∨ (∃ e ∈ ear, e.1 = q.1 ∧ e.2.2.2 = q.2) ∨ (∀ x ∈ π, x.ix ≠ q.1)

variable {l : List Oper} {b lou : List Nat} {Lq : List SProp} {ρ0 : Nat → Value} {K : (Nat → Value) → List SProp → Prop}

theorem okF_tail {x : It} {π : List It} (h : okOrderF lou b (x :: π) = true) : okOrderF lou b π = true := by
  cases x <;> simp only [okOrderF, Bool.and_eq_true] at h <;> exact h.2
theorem okF_anc {x : It} {π : List It} (h : okOrderF lou b (x :: π) = true) (hx : x.isJ = false) : ∀ y ∈ π, isAnc b x.ix y.ix = false := by
  cases x with
  | join i => cases hx
  | op i =>
    simp only [okOrderF, Bool.and_eq_true, List.all_eq_true] at h
    intro y hy; simpa [It.ix] using h.1.1.2 y hy
  | dec i =>
    simp only [okOrderF, Bool.and_eq_true, List.all_eq_true] at h
    intro y hy; simpa [It.ix] using h.1.1.2 y hy
theorem okF_ne {x : It} {π : List It} (h : okOrderF lou b (x :: π) = true) (hx : x.isJ = false) : ∀ y ∈ π, y.isJ = false → y.ix ≠ x.ix := by
  cases x with
  | join i => cases hx
  | op i =>
    simp only [okOrderF, Bool.and_eq_true, List.all_eq_true] at h
    intro y hy hj; simpa [It.ix] using h.1.2 y hy
  | dec i =>
    simp only [okOrderF, Bool.and_eq_true, List.all_eq_true] at h
    intro y hy hj; simpa [hj, It.ix] using h.1.2 y hy

/-- A quiet operation, or a floating one, is walked. -/
theorem InvF.push (rf : RegFacts l n b) {listed : Array Bool} {x : It} {π : List It} {D D' : List (Nat × Kd)} {pend : List Pe} {ear : List Ee} {ρf ρf' : Nat → Value} {o : Oper} {kd : Value ⊕ Kd} (h : InvF w0 A ro P l n ds b Lq ρ0 listed (x :: π) D pend ear ρf)
    (ho : okOrderF lou b (x :: π) = true) (hx : x.isJ = false) (hk : l[x.ix]? = some o) (hρ : ∀ t, dstAt l x.ix ≠ some t → ρf' t = ρf t)
    (hkd : match kd with
      | .inl v => (∀ X, OStep w0 A ro P l.toArray n ds ρf (Lq ++ X) o (fun u M => u = v ∧ M = Lq ++ X)) ∧ (∀ d, o.dst = some d → ρf' d = v) ∧ (∀ y ∈ π, y.ix ≠ x.ix)
      | .inr R => (∀ X, OStep w0 A ro P l.toArray n ds ρf (Lq ++ X) o (fun v M => ∃ M', Ent (sl M) (sl (Lq ++ (X ++ M'))) ∧ R v M')) ∧ It.join x.ix ∈ π ∧ ρf' = ρf)
    (hD : match kd with
      | .inl _ => D' = D
      | .inr R => D' = (x.ix, R) :: D) :
    InvF w0 A ro P l n ds b Lq ρ0 listed π D' ((x.ix, ρf, kd) :: pend) ear ρf' ∧ curF l ρ0 ((x.ix, ρf, kd) :: pend) ear ρf' = curF l ρ0 pend ear ρf := by
  have hkl : x.ix < l.length := (List.getElem?_eq_some_iff.1 hk).1
  have hkd' := dstAt_of hk
  obtain ⟨_, hkn, hkp⟩ := h.inπ x List.mem_cons_self hx
  have hbase : ∀ t, dstAt l x.ix = some t → ρf t = ρ0 t := fun t ht => h.base t fun j hj hjn e => hjn x List.mem_cons_self (rf.dne j x.ix t hj hkl e ht).symm
  refine ⟨⟨h.sz, ?_, ?_, ?_, ?_, ?_, h.nE, h.closed, ?_, ?_, ?_, ?_⟩, ?_⟩
  · intro y hy hj
    obtain ⟨h1, h2, h3⟩ := h.inπ y (List.mem_cons_of_mem _ hy) hj
    refine ⟨h1, h2, fun p hp => ?_⟩
    rcases List.mem_cons.1 hp with rfl | hp
    · exact (okF_ne ho hx y hy hj).symm
    · exact h3 p hp
  · intro p hp
    rcases List.mem_cons.1 hp with rfl | hp
    · exact ⟨hkl, hkn⟩
    · exact h.inP p hp
  · intro e he
    obtain ⟨h1, h2, h3, h4⟩ := h.inE e he
    refine ⟨h1, h2, ?_, h4⟩
    rcases List.mem_cons.1 h3 with h3 | h3
    · rw [← h3] at hx; cases hx
    · exact h3
  · intro j hj
    rcases h.all j hj with h1 | ⟨p, hp, rfl⟩ | ⟨y, hy, h1, h2⟩
    · exact .inl h1
    · exact .inr (.inl ⟨p, List.mem_cons_of_mem _ hp, rfl⟩)
    · rcases List.mem_cons.1 hy with rfl | hy
      · exact .inr (.inl ⟨_, List.mem_cons_self, h2⟩)
      · exact .inr (.inr ⟨y, hy, h1, h2⟩)
  · rw [List.map_cons, List.nodup_cons]
    refine ⟨fun hm => ?_, h.nP⟩
    obtain ⟨p, hp, e⟩ := List.mem_map.1 hm
    exact hkp p hp e
  · intro t ht
    have hs : ∀ (_ : dstAt l x.ix ≠ some t), ρf' t = ρ0 t := fun hne => by
      rw [hρ t hne]
      refine h.base t fun j hj hjn => ht j hj fun y hy => hjn y (List.mem_cons_of_mem _ hy)
    cases kd with
    | inl v =>
      exact hs (ht x.ix hkl hkd.2.2)
    | inr R =>
      by_cases e : dstAt l x.ix = some t
      · rw [hkd.2.2]; exact hbase t e
      · exact hs e
  · intro p hp y hy
    rcases List.mem_cons.1 hp with rfl | hp
    · exact okF_anc ho hx y hy
    · exact h.pa p hp y (List.mem_cons_of_mem _ hy)
  · intro p hp o' ho'
    rcases List.mem_cons.1 hp with rfl | hp
    · rw [hk] at ho'
      obtain rfl := Option.some.inj ho'
      refine ⟨?_, fun t ht => ⟨?_, ?_⟩⟩
      · cases kd with
        | inl v => exact ⟨hkd.1, hkd.2.1⟩
        | inr R => exact ⟨hkd.1, hkd.2.1⟩
      · rintro ⟨j, hj, ha, hd⟩
        refine (hρ t fun e => ?_).symm
        have : j = x.ix := rf.dne j x.ix t hj hkl hd e
        subst this
        rw [rf.irr _ hj] at ha; cases ha
      · intro hno
        refine h.base t fun j hj hjn e => ?_
        rcases rf.look x.ix o hk t ht j hj e with h1 | h1 | h1
        · exact hno j hj h1 e
        · exact hjn x List.mem_cons_self h1
        · rcases h.all j hj with h2 | ⟨p, hp, rfl⟩ | ⟨y, hy, _, h2⟩
          · have := h.closed j x.ix h2 h1 hkl
            rw [hkn] at this; cases this
          · rw [h.pa p hp x List.mem_cons_self] at h1; cases h1
          · exact hjn y hy h2
    · obtain ⟨h1, h3⟩ := h.pq p hp o' ho'
      have hne : p.1 ≠ x.ix := hkp p hp
      have hpl := (h.inP p hp).1
      have hpak := h.pa p hp x List.mem_cons_self
      refine ⟨?_, fun t ht => ⟨?_, (h3 t ht).2⟩⟩
      · cases hq : p.2.2 with
        | inl v =>
          rw [hq] at h1
          refine ⟨h1.1, fun d hd => ?_⟩
          rw [hρ d]
          · exact h1.2 d hd
          · intro e
            exact hne (rf.dne p.1 x.ix d hpl hkl (by rw [dstAt_of ho']; exact hd) e)
        | inr R =>
          rw [hq] at h1
          refine ⟨h1.1, ?_⟩
          rcases List.mem_cons.1 h1.2 with h4 | h4
          · rw [← h4] at hx; cases hx
          · exact h4
      · rintro ⟨j, hj, ha, hd⟩
        rw [(h3 t ht).1 ⟨j, hj, ha, hd⟩]
        refine (hρ t fun e => ?_).symm
        have : j = x.ix := rf.dne j x.ix t hj hkl hd e
        subst this
        rw [hpak] at ha; cases ha
  · have hold : ∀ q ∈ D, (∃ p ∈ ((x.ix, ρf, kd) :: pend : List Pe), p.1 = q.1 ∧ p.2.2 = .inr q.2) ∨ (∃ e ∈ ear, e.1 = q.1 ∧ e.2.2.2 = q.2) ∨ (∀ y ∈ π, y.ix ≠ q.1) := by
      intro q hq
      rcases h.dl q hq with ⟨p, hp, h1⟩ | h1 | h1
      · exact .inl ⟨p, List.mem_cons_of_mem _ hp, h1⟩
      · exact .inr (.inl h1)
      · exact .inr (.inr fun y hy => h1 y (List.mem_cons_of_mem _ hy))
    cases kd with
    | inl v => rw [hD]; exact hold
    | inr R =>
      rw [hD]
      intro q hq
      rcases List.mem_cons.1 hq with rfl | hq
      · exact .inl ⟨_, List.mem_cons_self, rfl, rfl⟩
      · exact hold q hq
  · funext t
    unfold curF
    cases earV l ear t with
    | some v => rfl
    | none =>
      simp only [List.any_cons]
      by_cases e : dstAt l x.ix = some t
      · have hno : pend.any (fun p => dstAt l p.1 == some t) = false := by
          rw [List.any_eq_false]
          intro p hp
          simp only [beq_iff_eq]
          intro e2
          exact hkp p hp (rf.dne p.1 x.ix t (h.inP p hp).1 hkl e2 e)
        simp [e, hno, hbase t e]
      · have e1 : (dstAt l x.ix == some t) = false := by simpa using e
        rw [e1, Bool.false_or, hρ t e]

/-- What was made ahead of its time is had. -/
theorem InvF.absorb (rf : RegFacts l n b) {listed : Array Bool} {f : Nat} {π : List It} {D : List (Nat × Kd)} {pend : List Pe} {ear : List Ee} {ρf : Nat → Value} {Lp : List SProp} (h : InvF w0 A ro P l n ds b Lq ρ0 listed (.join f :: π) D pend ear ρf)
    (ho : okOrderF lou b (.join f :: π) = true) (hf : listed.getD f false = true) (hob : ObF w0 A ro P l n ds lou K (.join f :: π) D Lq ρf Lp) :
    ∃ ear' ρf' Lp', InvF w0 A ro P l n ds b Lq ρ0 listed π D pend ear' ρf' ∧ ObF w0 A ro P l n ds lou K π D Lq ρf' Lp' ∧ curF l ρ0 pend ear' ρf' = curF l ρ0 pend ear ρf ∧ (Lp ++ EL ear).Perm (Lp' ++ EL ear') := by
  simp only [ObF] at hob
  cases hk : l[f]? with
  | none => rw [hk] at hob; exact hob.elim
  | some o =>
    rw [hk] at hob
    obtain ⟨R, hR, hnext⟩ := hob
    have hfl : f < l.length := (List.getElem?_eq_some_iff.1 hk).1
    have hdf := dstAt_of hk
    simp only [okOrderF, Bool.and_eq_true, List.all_eq_true] at ho
    have hnj : ∀ y ∈ π, y.ix ≠ f := fun y hy e => by
      have h1 := ho.1.1 y hy
      have h2 := ho.1.2 y hy
      cases hj : y.isJ with
      | true => rw [hj] at h2; simp [e] at h2
      | false =>
        rw [hj] at h1
        simp only [Bool.false_or] at h1
        rw [e, rf.irr f hfl] at h1; cases h1
    have hpf : ∀ p ∈ pend, p.1 ≠ f := fun p hp e => by
      have := (h.inP p hp).2
      rw [e, hf] at this; cases this
    rcases h.dl (f, R) hR with ⟨p, hp, h1, _⟩ | ⟨e, he, h1, h2⟩ | h1
    · exact absurd h1 (hpf p hp)
    · obtain ⟨ea, eb, hee⟩ := List.append_of_mem he
      have h1 : e.1 = f := h1
      have h2 : e.2.2.2 = R := h2
      have hRv : R e.2.1 e.2.2.1 := h2 ▸ (h.inE e he).2.2.2
      have hnE := h.nE
      rw [hee, List.map_append, List.map_cons] at hnE
      have hsplit := List.nodup_append.1 hnE
      have hne : ∀ q ∈ ea ++ eb, q.1 ≠ f := by
        intro q hq e2
        rcases List.mem_append.1 hq with hq | hq
        · exact hsplit.2.2 q.1 (List.mem_map.2 ⟨q, hq, rfl⟩) e.1 List.mem_cons_self (by rw [e2, h1])
        · exact (List.nodup_cons.1 hsplit.2.1).1 (by rw [h1, ← e2]; exact List.mem_map.2 ⟨q, hq, rfl⟩)
      have hmem : ∀ q, q ∈ ea ++ eb → q ∈ ear := fun q hq => by
        rw [hee]
        rcases List.mem_append.1 hq with hq | hq
        · exact List.mem_append_left _ hq
        · exact List.mem_append_right _ (List.mem_cons_of_mem _ hq)
      have hmem' : ∀ q, q ∈ ear → q = e ∨ q ∈ ea ++ eb := fun q hq => by
        rw [hee] at hq
        rcases List.mem_append.1 hq with hq | hq
        · exact .inr (List.mem_append_left _ hq)
        · rcases List.mem_cons.1 hq with hq | hq
          · exact .inl hq
          · exact .inr (List.mem_append_right _ hq)
      refine ⟨ea ++ eb, updo ρf o.dst e.2.1, e.2.2.1 ++ Lp, ⟨h.sz, ?_, h.inP, ?_, ?_, h.nP, ?_, h.closed, ?_, ?_, ?_, ?_⟩, hnext _ _ hRv, ?_, ?_⟩
      · exact fun y hy hj => h.inπ y (List.mem_cons_of_mem _ hy) hj
      · intro q hq
        obtain ⟨a1, a2, a3, a4⟩ := h.inE q (hmem q hq)
        refine ⟨a1, a2, ?_, a4⟩
        rcases List.mem_cons.1 a3 with a3 | a3
        · exact absurd (by simpa using a3) (hne q hq)
        · exact a3
      · intro j hj
        rcases h.all j hj with a1 | a1 | ⟨y, hy, a1, a2⟩
        · exact .inl a1
        · exact .inr (.inl a1)
        · rcases List.mem_cons.1 hy with rfl | hy
          · cases a1
          · exact .inr (.inr ⟨y, hy, a1, a2⟩)
      · rw [List.map_append, List.nodup_append]
        exact ⟨hsplit.1, (List.nodup_cons.1 hsplit.2.1).2, fun x hx y hy => hsplit.2.2 x hx y (List.mem_cons_of_mem _ hy)⟩
      · intro t ht
        rw [updo_ne (by rw [← hdf]; exact ht f hfl hnj)]
        refine h.base t fun j hj hjn => ht j hj fun y hy => hjn y (List.mem_cons_of_mem _ hy)
      · exact fun p hp y hy => h.pa p hp y (List.mem_cons_of_mem _ hy)
      · intro p hp o' ho'
        obtain ⟨a1, a3⟩ := h.pq p hp o' ho'
        refine ⟨?_, fun t ht => ⟨?_, (a3 t ht).2⟩⟩
        · cases hq : p.2.2 with
          | inl v =>
            rw [hq] at a1
            refine ⟨a1.1, fun d hd => ?_⟩
            rw [updo_ne]
            · exact a1.2 d hd
            · intro e2
              exact hpf p hp (rf.dne p.1 f d (h.inP p hp).1 hfl (by rw [dstAt_of ho']; exact hd) (by rw [hdf]; exact e2))
          | inr R' =>
            rw [hq] at a1
            refine ⟨a1.1, ?_⟩
            rcases List.mem_cons.1 a1.2 with a4 | a4
            · exact absurd (by simpa using a4) (hpf p hp)
            · exact a4
        · rintro ⟨j, hj, ha, hd⟩
          rw [(a3 t ht).1 ⟨j, hj, ha, hd⟩]
          refine (updo_ne fun e2 => ?_).symm
          have : j = f := rf.dne j f t hj hfl hd (by rw [hdf]; exact e2)
          subst this
          have := h.pa p hp (.join j) List.mem_cons_self
          simp only [It.ix] at this
          rw [this] at ha; cases ha
      · intro q hq
        rcases h.dl q hq with a1 | ⟨e', he', a1, a2⟩ | a1
        · exact .inl a1
        · rcases hmem' e' he' with rfl | he'
          · exact .inr (.inr fun y hy => by rw [← a1, h1]; exact hnj y hy)
          · exact .inr (.inl ⟨e', he', a1, a2⟩)
        · exact .inr (.inr fun y hy => a1 y (List.mem_cons_of_mem _ hy))
      · funext t
        unfold curF
        by_cases e2 : dstAt l f = some t
        · have hl1 : earV l ear t = some e.2.1 := by
            cases hc : earV l ear t with
            | none =>
              exfalso
              unfold earV at hc
              rw [Option.map_eq_none_iff, List.find?_eq_none] at hc
              have := hc e he
              rw [h1, e2] at this
              simp at this
            | some v =>
              obtain ⟨e', he', b1, b2⟩ := earV_some hc
              have b3 : e'.1 = f := rf.dne e'.1 f t (h.inE e' he').1 hfl b1 e2
              rcases hmem' e' he' with rfl | he''
              · rw [b2]
              · exact absurd b3 (hne e' he'')
          have hl2 : earV l (ea ++ eb) t = none := earV_none fun q hq b1 => hne q hq (rf.dne q.1 f t (h.inE q (hmem q hq)).1 hfl b1 e2)
          have hno : pend.any (fun p => dstAt l p.1 == some t) = false := by
            rw [List.any_eq_false]
            intro p hp
            simp only [beq_iff_eq]
            intro b1
            exact hpf p hp (rf.dne p.1 f t (h.inP p hp).1 hfl b1 e2)
          rw [hl1, hl2]
          simp only [hno, cond_false]
          have : o.dst = some t := by rw [← hdf]; exact e2
          rw [this]
          simp [updo, upd_same]
        · have : earV l ear t = earV l (ea ++ eb) t := by rw [hee]; exact earV_drop (by rw [h1]; exact e2)
          rw [this, updo_ne (by rw [← hdf]; exact e2)]
      · rw [hee]
        simp only [EL, List.flatMap_append, List.flatMap_cons]
        have : (Lp ++ (List.flatMap (fun x : Ee => x.2.2.1) ea ++ (e.2.2.1 ++ List.flatMap (fun x : Ee => x.2.2.1) eb))).Perm (e.2.2.1 ++ (Lp ++ (List.flatMap (fun x : Ee => x.2.2.1) ea ++ List.flatMap (fun x : Ee => x.2.2.1) eb))) := by
          rw [← List.append_assoc Lp, ← List.append_assoc Lp]
          exact (List.perm_append_comm_assoc _ _ _)
        simpa using this
    · exact absurd rfl (h1 (.join f) List.mem_cons_self)

/-- Walked till i is reached. -/
theorem InvF.pops (rf : RegFacts l n b) {listed : Array Bool} {x0 : It} {πb : List It} (hx0 : x0.isJ = false) : ∀ (πa : List It) {D : List (Nat × Kd)} {pend : List Pe} {ear : List Ee} {ρf : Nat → Value} {Lp : List SProp}, InvF w0 A ro P l n ds b Lq ρ0 listed (πa ++ x0 :: πb) D pend ear ρf →
    okOrderF lou b (πa ++ x0 :: πb) = true → (∀ k, isAnc b x0.ix k = true → k < l.length → listed.getD k false = true) → ObF w0 A ro P l n ds lou K (πa ++ x0 :: πb) D Lq ρf Lp →
    ∃ D' pend' ear' ρf' Lp', InvF w0 A ro P l n ds b Lq ρ0 listed (x0 :: πb) D' pend' ear' ρf' ∧ okOrderF lou b (x0 :: πb) = true ∧ ObF w0 A ro P l n ds lou K (x0 :: πb) D' Lq ρf' Lp' ∧ curF l ρ0 pend' ear' ρf' = curF l ρ0 pend ear ρf ∧
      pend'.length = pend.length + (πa.filter fun y => !y.isJ).length ∧ (Lp ++ EL ear).Perm (Lp' ++ EL ear')
  | [], D, pend, ear, ρf, Lp, h, ho, _, hob => ⟨D, pend, ear, ρf, Lp, h, ho, hob, rfl, by simp, .refl _⟩
  | .join f :: πa, D, pend, ear, ρf, Lp, h, ho, hr, hob => by
    have ho' : okOrderF lou b (.join f :: (πa ++ x0 :: πb)) = true := ho
    have hlf : listed.getD f false = true := by
      have h1 := ho'
      simp only [okOrderF, Bool.and_eq_true, List.all_eq_true] at h1
      have h2 := h1.1.1 x0 (by simp)
      rw [hx0] at h2
      simp only [Bool.false_or] at h2
      have hff : f < l.length := by
        have hob' : ObF w0 A ro P l n ds lou K (.join f :: (πa ++ x0 :: πb)) D Lq ρf Lp := hob
        simp only [ObF] at hob'
        cases hc : l[f]? with
        | none => rw [hc] at hob'; exact hob'.elim
        | some o => exact (List.getElem?_eq_some_iff.1 hc).1
      exact hr f h2 hff
    obtain ⟨ear1, ρf1, Lp1, h1, hob1, hc1, hp1⟩ := InvF.absorb (π := πa ++ x0 :: πb) rf h ho' hlf hob
    obtain ⟨D', pend', ear', ρf', Lp', a1, a2, a3, a4, a5, a6⟩ := InvF.pops rf hx0 πa h1 (okF_tail ho') hr hob1
    exact ⟨D', pend', ear', ρf', Lp', a1, a2, a3, a4.trans hc1, by rw [a5]; simp [It.isJ], hp1.trans a6⟩
  | .dec k :: πa, D, pend, ear, ρf, Lp, h, ho, hr, hob => by
    have ho' : okOrderF lou b (.dec k :: (πa ++ x0 :: πb)) = true := ho
    have hob' : ObF w0 A ro P l n ds lou K (.dec k :: (πa ++ x0 :: πb)) D Lq ρf Lp := hob
    simp only [ObF] at hob'
    cases hk : l[k]? with
    | none => rw [hk] at hob'; exact hob'.elim
    | some o =>
      rw [hk] at hob'
      obtain ⟨R, hst, hrest⟩ := hob'
      have hj : It.join k ∈ πa ++ x0 :: πb := by
        have h1 := ho'
        simp only [okOrderF, Bool.and_eq_true, List.any_eq_true] at h1
        obtain ⟨y, hy, hy1, hy2⟩ := h1.1.1.1
        cases y with
        | op i => cases hy1
        | dec i => cases hy1
        | join i =>
          have : i = k := by simpa [It.ix] using hy2
          subst this; exact hy
      obtain ⟨hi, hc⟩ := InvF.push (x := .dec k) (π := πa ++ x0 :: πb) (kd := .inr R) (ρf' := ρf) rf h ho' rfl hk (fun _ _ => rfl) ⟨hst, hj, rfl⟩ rfl
      obtain ⟨D', pend', ear', ρf', Lp', a1, a2, a3, a4, a5, a6⟩ := InvF.pops rf hx0 πa hi (okF_tail ho') hr hrest
      exact ⟨D', pend', ear', ρf', Lp', a1, a2, a3, a4.trans hc, by rw [a5]; simp [It.isJ]; omega, a6⟩
  | .op k :: πa, D, pend, ear, ρf, Lp, h, ho, hr, hob => by
    have ho' : okOrderF lou b (.op k :: (πa ++ x0 :: πb)) = true := ho
    have hob' : ObF w0 A ro P l n ds lou K (.op k :: (πa ++ x0 :: πb)) D Lq ρf Lp := hob
    have h1 := ho'
    simp only [okOrderF, Bool.and_eq_true, List.all_eq_true] at h1
    have hq : lou.contains k = false := by
      cases hc : lou.contains k with
      | false => rfl
      | true =>
        have h1 := h1.1.1.1
        rw [hc] at h1
        simp only [Bool.not_true, Bool.false_or, List.all_eq_true] at h1
        have h2 := h1 x0 (by simp)
        rw [hx0] at h2
        simp only [Bool.false_or] at h2
        obtain ⟨h3, h4, _⟩ := h.inπ (.op k) (by simp) rfl
        have : listed.getD k false = true := hr k h2 h3
        simp only [It.ix] at h4
        rw [this] at h4; cases h4
    simp only [ObF] at hob'
    cases hk : l[k]? with
    | none => rw [hk] at hob'; exact hob'.elim
    | some o =>
      rw [hk] at hob'
      simp only [hq] at hob'
      obtain ⟨v, hst, hrest⟩ := hob'
      have hne : ∀ y ∈ πa ++ x0 :: πb, y.ix ≠ k := fun y hy => by
        have := h1.1.2 y hy
        simpa using this
      obtain ⟨hi, hc⟩ := InvF.push (x := .op k) (π := πa ++ x0 :: πb) (kd := .inl v) (ρf' := updo ρf o.dst v) rf h ho' rfl hk (fun t ht => updo_ne (by rw [← dstAt_of hk]; exact ht)) ⟨hst, fun d hd => by rw [hd]; simp [updo, upd_same], hne⟩ rfl
      obtain ⟨D', pend', ear', ρf', Lp', a1, a2, a3, a4, a5, a6⟩ := InvF.pops rf hx0 πa hi (okF_tail ho') hr hrest
      exact ⟨D', pend', ear', ρf', Lp', a1, a2, a3, a4.trans hc, by rw [a5]; simp [It.isJ]; omega, a6⟩

theorem nonJ_split {π : List It} {i : Nat} (h : ∃ x ∈ π, x.isJ = false ∧ x.ix = i) : ∃ πa x πb, π = πa ++ x :: πb ∧ x.isJ = false ∧ x.ix = i := by
  obtain ⟨x, hx, h1, h2⟩ := h
  obtain ⟨πa, πb, e⟩ := List.append_of_mem hx
  exact ⟨πa, x, πb, e, h1, h2⟩

/-- Nothing is left but what was made and is to be had. -/
theorem InvF.finish (rf : RegFacts l n b) {listed : Array Bool} : ∀ (π : List It) {D : List (Nat × Kd)} {ear : List Ee} {ρf : Nat → Value} {Lp : List SProp}, InvF w0 A ro P l n ds b Lq ρ0 listed π D [] ear ρf → okOrderF lou b π = true → (∀ x ∈ π, x.isJ = true) → (∀ j, j < l.length → listed.getD j false = true) →
    ObF w0 A ro P l n ds lou K π D Lq ρf Lp → ∃ ρ' Lp', K ρ' (Lq ++ Lp') ∧ ρ' = curF l ρ0 [] ear ρf ∧ (Lp ++ EL ear).Perm Lp'
  | [], D, ear, ρf, Lp, h, _, _, _, hob => by
    have he : ear = [] := by
      cases hc : ear with
      | nil => rfl
      | cons e r => have := (h.inE e (by rw [hc]; exact List.mem_cons_self)).2.2.1; cases this
    subst he
    refine ⟨ρf, Lp, hob, ?_, by simp [EL]⟩
    funext t
    simp [curF, earV]
  | x :: π, D, ear, ρf, Lp, h, ho, hj, hl, hob => by
    have hx := hj x List.mem_cons_self
    cases x with
    | op i => cases hx
    | dec i => cases hx
    | join f =>
      have hff : f < l.length := by
        have hob' := hob
        simp only [ObF] at hob'
        cases hc : l[f]? with
        | none => rw [hc] at hob'; exact hob'.elim
        | some o => exact (List.getElem?_eq_some_iff.1 hc).1
      obtain ⟨ear1, ρf1, Lp1, h1, hob1, hc1, hp1⟩ := InvF.absorb rf h ho (hl f hff) hob
      obtain ⟨ρ', Lp', a1, a2, a3⟩ := InvF.finish rf π h1 (okF_tail ho) (fun y hy => hj y (List.mem_cons_of_mem _ hy)) hl hob1
      exact ⟨ρ', Lp', a1, a2.trans hc1, hp1.trans a3⟩

theorem draw_soundF (rf : RegFacts l n b) (hbm : b = masks l []) {Q : Exit → Act → World → Prop} (hK : ∀ ρ L, K ρ L → G w0 A L (fun w => Q .normal (act n ρ ds) w)) :
    ∀ (k : Nat) (Lq : List SProp) (listed : Array Bool) (π : List It) (D : List (Nat × Kd)) (pend : List Pe) (ear : List Ee) (ρf : Nat → Value) (Lp : List SProp) (w : World), InvF w0 A ro P l n ds b Lq ρ0 listed π D pend ear ρf → okOrderF lou b π = true → ObF w0 A ro P l n ds lou K π D Lq ρf Lp →
      k = pend.length + (π.filter fun y => !y.isJ).length → Std w0 w → holds (star A (sl (Lq ++ (Lp ++ EL ear)))) w → wpAnyIn (WF ro) 0 P .any l.toArray Q k listed (act n (curF l ρ0 pend ear ρf) ds) w := by
  intro k
  induction k with
  | zero =>
    intro Lq listed π D pend ear ρf Lp w hI ho hob hk hw hh
    have hp : pend = [] := List.eq_nil_of_length_eq_zero (by omega)
    have hπ : (π.filter fun y => !y.isJ) = [] := List.eq_nil_of_length_eq_zero (by omega)
    rw [List.filter_eq_nil_iff] at hπ
    have hπ : ∀ x ∈ π, x.isJ = true := fun x hx => by simpa using hπ x hx
    subst hp
    have hl : ∀ j, j < l.length → listed.getD j false = true := fun j hj => by
      rcases hI.all j hj with h1 | ⟨p, hp, _⟩ | ⟨x, hx, h1, _⟩
      · exact h1
      · cases hp
      · rw [hπ x hx] at h1; cases h1
    refine ⟨?_, ?_⟩
    · unfold Region.ready
      rw [List.filter_eq_nil_iff]
      intro i hi
      have hil : i < l.length := by simpa using hi
      have h1 := hl i hil
      have h2 : listed.getD i true = true := by
        have his : i < listed.size := by rw [hI.sz]; exact hil
        simp [his] at h1 ⊢
        exact h1
      rw [h2]
      simp
    · obtain ⟨ρ', Lp', a1, a2, a3⟩ := InvF.finish rf π hI ho hπ hl hob
      rw [← a2]
      exact hK ρ' _ a1 w hw (hh.ent ((Ent.refl A).star (sl_perm (a3.append_left Lq))))
  | succ k ih =>
    intro Lq listed π D pend ear ρf Lp w hI ho hob hk hw hh
    have getT : ∀ i, i < l.length → listed.getD i true = listed.getD i false := fun i hi => by
      have his : i < listed.size := by rw [hI.sz]; exact hi
      simp [his]
    refine ⟨?_, ?_⟩
    · -- something is ready: the least that is not listed
      intro hnil
      exfalso
      obtain ⟨j, hj, hjl⟩ : ∃ j, j < l.length ∧ listed.getD j false = false := by
        cases hpd : pend with
        | cons p _ => exact ⟨p.1, (hI.inP p (by rw [hpd]; exact List.mem_cons_self)).1, (hI.inP p (by rw [hpd]; exact List.mem_cons_self)).2⟩
        | nil =>
          cases hf : (π.filter fun y => !y.isJ) with
          | cons x _ =>
            have hx : x ∈ π.filter fun y => !y.isJ := by rw [hf]; exact List.mem_cons_self
            rw [List.mem_filter] at hx
            have h1 := hI.inπ x hx.1 (by simpa using hx.2)
            exact ⟨x.ix, h1.1, h1.2.1⟩
          | nil => rw [hpd, hf] at hk; simp at hk
      have key : ∀ j, j < l.length → listed.getD j false = true := by
        intro j
        induction j using Nat.strongRecOn with
        | _ j ihj =>
          intro hj
          cases hc : listed.getD j false with
          | true => rfl
          | false =>
            have : j ∈ Region.ready .any l.toArray listed := by
              unfold Region.ready
              rw [List.mem_filter]
              refine ⟨by simpa using hj, ?_⟩
              rw [getT j hj, hc]
              simp only [Bool.not_false, Bool.true_and, List.getElem?_toArray, List.getElem?_eq_getElem hj, Option.map_some, Option.getD_some]
              rw [Array.all_eq_true_iff_forall_mem]
              intro e he
              cases hb : Region.binds .any e with
              | false => rfl
              | true =>
                have hlt := rf.back j l[j] (List.getElem?_eq_getElem hj) e he hb
                simpa using ihj e.on hlt (by omega)
            rw [hnil] at this; cases this
      rw [key j hj] at hjl; cases hjl
    · intro i hi
      unfold Region.ready at hi
      rw [List.mem_filter] at hi
      obtain ⟨hil, hi⟩ := hi
      have hil : i < l.length := by simpa using hil
      rw [getT i hil] at hi
      simp only [Bool.and_eq_true, List.getElem?_toArray, List.getElem?_eq_getElem hil, Option.map_some, Option.getD_some] at hi
      obtain ⟨hnl, hed⟩ := hi
      have hnl : listed.getD i false = false := by simpa using hnl
      rw [Array.all_eq_true_iff_forall_mem] at hed
      have hoi : l[i]? = some l[i] := List.getElem?_eq_getElem hil
      -- its ancestors are listed
      have hanc : ∀ j, isAnc b i j = true → j < l.length → listed.getD j false = true := by
        intro j ha hj
        obtain ⟨e, he, hb, hx⟩ := rf.step i l[i] hoi j hj ha
        have h1 := hed e he
        rw [hb] at h1
        simp only [Bool.not_true, Bool.false_or] at h1
        rcases hx with rfl | hx
        · exact h1
        · exact hI.closed e.on j h1 hx hj
      have hlsz : i < listed.size := by rw [hI.sz]; exact hil
      have hclosed' : ∀ x y, (listed.setIfInBounds i true).getD x false = true → isAnc b x y = true → y < l.length → (listed.setIfInBounds i true).getD y false = true := by
        intro x y hx ha hy
        rw [getD_set hlsz] at hx ⊢
        split
        · rfl
        · split at hx
          · rename_i e; subst e; exact hanc y ha hy
          · exact hI.closed x y hx ha hy
      have hopd := rf.op i l[i] hoi
      -- the case of an operation that has been walked and not run
      have pendCase : ∀ (π : List It) (D : List (Nat × Kd)) (pend : List Pe) (ear : List Ee) (ρf : Nat → Value) (Lp : List SProp), InvF w0 A ro P l n ds b Lq ρ0 listed π D pend ear ρf → okOrderF lou b π = true → ObF w0 A ro P l n ds lou K π D Lq ρf Lp → k + 1 = pend.length + (π.filter fun y => !y.isJ).length →
          holds (star A (sl (Lq ++ (Lp ++ EL ear)))) w → (∃ p ∈ pend, p.1 = i) → wpOpIn (WF ro) 0 P l.toArray Q i (wpAnyIn (WF ro) 0 P .any l.toArray Q k (listed.setIfInBounds i true)) (act n (curF l ρ0 pend ear ρf) ds) w := by
        rintro π D pend ear ρf Lp hI ho hob hk hh ⟨p, hp, hpi⟩
        obtain ⟨hst, hlk⟩ := hI.pq p hp l[i] (by rw [hpi]; exact hoi)
        have hearn : ∀ t ∈ (l[i]).looksAt l.toArray, earV l ear t = none := fun t ht => earV_none fun e he hed2 => by
          obtain ⟨h1, h2, h3, _⟩ := hI.inE e he
          rcases rf.look i l[i] hoi t ht e.1 h1 hed2 with h4 | h4 | h4
          · have := hI.pa p hp _ h3
            simp only [It.ix] at this
            rw [hpi, h4] at this; cases this
          · rw [← h4, hnl] at h2; cases h2
          · have := hI.closed e.1 i h2 h4 hil
            rw [hnl] at this; cases this
        have hcl : ∀ t ∈ (l[i]).looksAt l.toArray, curF l ρ0 pend ear ρf t = p.2.1 t := by
          intro t ht
          unfold curF
          rw [hearn t ht]
          simp only
          cases hany : pend.any (fun p => dstAt l p.1 == some t) with
          | true =>
            rw [cond_true]
            rw [List.any_eq_true] at hany
            obtain ⟨q, hq, hqd⟩ := hany
            have hqd : dstAt l q.1 = some t := by simpa using hqd
            refine ((hlk t ht).2 fun j hj ha e => ?_).symm
            have : j = q.1 := rf.dne j q.1 t hj (hI.inP q hq).1 e hqd
            rw [hpi] at ha
            rw [this] at ha
            have := hanc q.1 ha (hI.inP q hq).1
            rw [(hI.inP q hq).2] at this; cases this
          | false =>
            rw [cond_false]
            by_cases hex : ∃ j, j < l.length ∧ isAnc b p.1 j = true ∧ dstAt l j = some t
            · exact ((hlk t ht).1 hex).symm
            · have hno : ∀ j, j < l.length → isAnc b p.1 j = true → dstAt l j ≠ some t := fun j hj ha e => hex ⟨j, hj, ha, e⟩
              rw [(hlk t ht).2 hno]
              refine hI.base t fun j hj hjn e => ?_
              have hjp : ∀ q ∈ pend, q.1 ≠ j := fun q hq e2 => by
                have : pend.any (fun p => dstAt l p.1 == some t) = true := by
                  rw [List.any_eq_true]
                  exact ⟨q, hq, by rw [e2, e]; simp⟩
                rw [hany] at this; cases this
              rcases rf.look i l[i] hoi t ht j hj e with h1 | h1 | h1
              · exact hno j hj (by rw [hpi]; exact h1) e
              · exact hjp p hp (by rw [hpi, h1])
              · rcases hI.all j hj with h2 | ⟨q, hq, e2⟩ | ⟨y, hy, _, h2⟩
                · have := hI.closed j i h2 h1 hil
                  rw [hnl] at this; cases this
                · exact hjp q hq e2
                · exact hjn y hy h2
        obtain ⟨pa, pb, hpp⟩ := List.append_of_mem hp
        have hnP := hI.nP
        rw [hpp, List.map_append, List.map_cons] at hnP
        have hsplit := List.nodup_append.1 hnP
        have hne : ∀ q ∈ pa ++ pb, q.1 ≠ i := by
          intro q hq e
          rcases List.mem_append.1 hq with hq | hq
          · exact hsplit.2.2 q.1 (List.mem_map.2 ⟨q, hq, rfl⟩) p.1 List.mem_cons_self (by rw [e, hpi])
          · exact (List.nodup_cons.1 hsplit.2.1).1 (by rw [hpi, ← e]; exact List.mem_map.2 ⟨q, hq, rfl⟩)
        have hmem : ∀ q, q ∈ pa ++ pb → q ∈ pend := fun q hq => by
          rw [hpp]
          rcases List.mem_append.1 hq with hq | hq
          · exact List.mem_append_left _ hq
          · exact List.mem_append_right _ (List.mem_cons_of_mem _ hq)
        have hmem' : ∀ q, q ∈ pend → q = p ∨ q ∈ pa ++ pb := fun q hq => by
          rw [hpp] at hq
          rcases List.mem_append.1 hq with hq | hq
          · exact .inr (List.mem_append_left _ hq)
          · rcases List.mem_cons.1 hq with hq | hq
            · exact .inl hq
            · exact .inr (List.mem_append_right _ hq)
        have hanyd : ∀ t, (l[i]).dst ≠ some t → pend.any (fun p => dstAt l p.1 == some t) = (pa ++ pb).any (fun p => dstAt l p.1 == some t) := fun t e => by
          have hpd : (dstAt l p.1 == some t) = false := by rw [hpi, dstAt_of hoi]; simpa using e
          rw [hpp]
          simp [hpd]
        have hanyn : ∀ t, (l[i]).dst = some t → (pa ++ pb).any (fun p => dstAt l p.1 == some t) = false := fun t e => by
          rw [List.any_eq_false]
          intro q hq
          simp only [beq_iff_eq]
          intro e2
          exact hne q hq (rf.dne q.1 i t (hI.inP q (hmem q hq)).1 hil e2 (by rw [dstAt_of hoi]; exact e))
        have hearn' : ∀ t, (l[i]).dst = some t → ∀ e ∈ ear, dstAt l e.1 ≠ some t := fun t e e' he' e2 => by
          obtain ⟨h1, h2, _, _⟩ := hI.inE e' he'
          have := rf.dne e'.1 i t h1 hil e2 (by rw [dstAt_of hoi]; exact e)
          rw [this, hnl] at h2; cases h2
        have keepπ : ∀ y ∈ π, y.isJ = false → y.ix < l.length ∧ (listed.setIfInBounds i true).getD y.ix false = false ∧ ∀ q ∈ pa ++ pb, q.1 ≠ y.ix := by
          intro y hy hj
          obtain ⟨h1, h2, h3⟩ := hI.inπ y hy hj
          have hji : y.ix ≠ i := fun e => h3 p hp (by rw [hpi, e])
          exact ⟨h1, by rw [getD_set hlsz, if_neg hji]; exact h2, fun q hq => h3 q (hmem q hq)⟩
        have keepP : ∀ q ∈ pa ++ pb, q.1 < l.length ∧ (listed.setIfInBounds i true).getD q.1 false = false := by
          intro q hq
          obtain ⟨h1, h2⟩ := hI.inP q (hmem q hq)
          exact ⟨h1, by rw [getD_set hlsz, if_neg (hne q hq)]; exact h2⟩
        have keepL : ∀ j, listed.getD j false = true → (listed.setIfInBounds i true).getD j false = true := fun j hj => by
          rw [getD_set hlsz]; split <;> simp_all
        have keepAll : ∀ j, j < l.length → (listed.setIfInBounds i true).getD j false = true ∨ (∃ q ∈ pa ++ pb, q.1 = j) ∨ ∃ x ∈ π, x.isJ = false ∧ x.ix = j := by
          intro j hj
          by_cases e : j = i
          · left; rw [getD_set hlsz, if_pos e]
          · rcases hI.all j hj with h1 | ⟨q, hq, e2⟩ | h1
            · exact .inl (keepL j h1)
            · rcases hmem' q hq with rfl | hq'
              · exact absurd (e2.symm.trans hpi) e
              · exact .inr (.inl ⟨q, hq', e2⟩)
            · exact .inr (.inr h1)
        have keepN : ((pa ++ pb).map (·.1)).Nodup := by
          rw [List.map_append, List.nodup_append]
          exact ⟨hsplit.1, (List.nodup_cons.1 hsplit.2.1).2, fun x hx y hy => hsplit.2.2 x hx y (List.mem_cons_of_mem _ hy)⟩
        have hlen : k = (pa ++ pb).length + (π.filter fun y => !y.isJ).length := by rw [hpp] at hk; simp at hk ⊢; omega
        cases hkd : p.2.2 with
        | inl v0 =>
          rw [hkd] at hst
          have hrun := (hst.1 (Lp ++ EL ear)).run (ρ' := curF l ρ0 pend ear ρf) (by intro c e; rw [e] at hopd; cases hopd) (by intro cs bb e; rw [e] at hopd; cases hopd) (rf.dlt i l[i] hoi) hcl hw hh
            (next := wpAnyIn (WF ro) 0 P .any l.toArray Q k (listed.setIfInBounds i true)) (Q := Q) (fun v u M w' hr hvu hw' hh' => ?_)
          · unfold wpOpIn
            simp only [List.getElem?_toArray, hoi]
            split
            · rename_i hwant; rw [if_pos hwant] at hrun; exact hrun
            · rename_i hwant; rw [if_neg hwant] at hrun; exact ⟨fun _ _ => trivial, hrun⟩
          · obtain ⟨rfl, rfl⟩ := hr
            have hcur : updo (curF l ρ0 pend ear ρf) (l[i]).dst v = curF l ρ0 (pa ++ pb) ear ρf := by
              funext t
              by_cases e : (l[i]).dst = some t
              · rw [e]
                simp only [updo, upd_same, curF, hanyn t e, earV_none (hearn' t e), cond_false]
                rw [hvu t e]
                exact (hst.2 t e).symm
              · rw [updo_ne e]
                unfold curF
                rw [hanyd t e]
            rw [hcur]
            refine ih Lq (listed.setIfInBounds i true) π D (pa ++ pb) ear ρf Lp w' ?_ ho hob hlen hw' hh'
            refine ⟨by simpa using hI.sz, keepπ, keepP, ?_, keepAll, keepN, hI.nE, hclosed', hI.base, fun q hq => hI.pa q (hmem q hq), fun q hq => hI.pq q (hmem q hq), ?_⟩
            · intro e he
              obtain ⟨h1, h2, h3⟩ := hI.inE e he
              exact ⟨h1, keepL _ h2, h3⟩
            · intro q hq
              rcases hI.dl q hq with ⟨p', hp', h1, h2⟩ | h1
              · rcases hmem' p' hp' with rfl | hp''
                · rw [hkd] at h2; cases h2
                · exact .inl ⟨p', hp'', h1, h2⟩
              · exact .inr h1
        | inr R =>
          rw [hkd] at hst
          have hrun := (hst.1 (Lp ++ EL ear)).run (ρ' := curF l ρ0 pend ear ρf) (by intro c e; rw [e] at hopd; cases hopd) (by intro cs bb e; rw [e] at hopd; cases hopd) (rf.dlt i l[i] hoi) hcl hw hh
            (next := wpAnyIn (WF ro) 0 P .any l.toArray Q k (listed.setIfInBounds i true)) (Q := Q) (fun v u M w' hr hvu hw' hh' => ?_)
          · unfold wpOpIn
            simp only [List.getElem?_toArray, hoi]
            split
            · rename_i hwant; rw [if_pos hwant] at hrun; exact hrun
            · rename_i hwant; rw [if_neg hwant] at hrun; exact ⟨fun _ _ => trivial, hrun⟩
          · obtain ⟨M', hM, hR⟩ := hr
            have hcur : updo (curF l ρ0 pend ear ρf) (l[i]).dst v = curF l ρ0 (pa ++ pb) ((i, u, M', R) :: ear) ρf := by
              funext t
              by_cases e : (l[i]).dst = some t
              · rw [e]
                have : earV l ((i, u, M', R) :: ear) t = some u := earV_head (e := (i, u, M', R)) (by rw [dstAt_of hoi]; exact e)
                simp only [updo, upd_same, curF, this]
                exact hvu t e
              · rw [updo_ne e]
                unfold curF
                rw [hanyd t e, earV_cons (e := (i, u, M', R)) (by rw [dstAt_of hoi]; exact e)]
            rw [hcur]
            refine ih Lq (listed.setIfInBounds i true) π D (pa ++ pb) ((i, u, M', R) :: ear) ρf Lp w' ?_ ho hob hlen hw' ?_
            · refine ⟨by simpa using hI.sz, keepπ, keepP, ?_, keepAll, keepN, ?_, hclosed', hI.base, fun q hq => hI.pa q (hmem q hq), fun q hq => hI.pq q (hmem q hq), ?_⟩
              · intro e he
                rcases List.mem_cons.1 he with rfl | he
                · exact ⟨hil, by rw [getD_set hlsz, if_pos rfl], by have := hst.2; rwa [hpi] at this, hR⟩
                · obtain ⟨h1, h2, h3⟩ := hI.inE e he
                  exact ⟨h1, keepL _ h2, h3⟩
              · rw [List.map_cons, List.nodup_cons]
                refine ⟨fun hm => ?_, hI.nE⟩
                obtain ⟨e, he, h1⟩ := List.mem_map.1 hm
                have h2 := (hI.inE e he).2.1
                have h1 : e.1 = i := h1
                rw [h1, hnl] at h2; cases h2
              · intro q hq
                rcases hI.dl q hq with ⟨p', hp', h1, h2⟩ | ⟨e, he, h1⟩ | h1
                · rcases hmem' p' hp' with rfl | hp''
                  · rw [hkd] at h2
                    exact .inr (.inl ⟨_, List.mem_cons_self, by show i = q.1; rw [← h1, hpi], by show R = q.2; exact Sum.inr.inj h2⟩)
                  · exact .inl ⟨p', hp'', h1, h2⟩
                · exact .inr (.inl ⟨e, List.mem_cons_of_mem _ he, h1⟩)
                · exact .inr (.inr h1)
            · refine (hh'.ent ((Ent.refl A).star hM)).ent ((Ent.refl A).star (sl_perm ?_))
              show (Lq ++ ((Lp ++ EL ear) ++ M')).Perm (Lq ++ (Lp ++ (M' ++ EL ear)))
              refine List.Perm.append_left _ ?_
              rw [List.append_assoc]
              exact List.Perm.append_left _ List.perm_append_comm
      rcases hI.all i hil with h1 | h1 | h1
      · rw [hnl] at h1; cases h1
      · exact pendCase π D pend ear ρf Lp hI ho hob (by omega) hh h1
      · obtain ⟨πa, x0, πb, hπ, hx0, hxi⟩ := nonJ_split h1
        subst hπ
        obtain ⟨D', pend', ear', ρf', Lp', hI', ho', hob', hcur, hlen, hperm⟩ := InvF.pops rf hx0 πa hI ho (by rw [hxi]; exact hanc) hob
        rw [← hcur]
        replace hh := hh.ent ((Ent.refl A).star (sl_perm (hperm.append_left Lq)))
        have hk' : k + 1 = pend'.length + ((x0 :: πb).filter fun y => !y.isJ).length := by
          rw [hlen]
          simp only [List.filter_append, List.length_append] at hk
          omega
        cases x0 with
        | join j => cases hx0
        | dec j =>
          have hji : j = i := hxi
          subst hji
          have hob2 := hob'
          simp only [ObF, hoi] at hob2
          obtain ⟨R, hst, hrest⟩ := hob2
          have hj : It.join j ∈ πb := by
            have h1 := ho'
            simp only [okOrderF, Bool.and_eq_true, List.any_eq_true] at h1
            obtain ⟨y, hy, hy1, hy2⟩ := h1.1.1.1
            cases y with
            | op i => cases hy1
            | dec i => cases hy1
            | join i =>
              have : i = j := by simpa [It.ix] using hy2
              subst this; exact hy
          obtain ⟨hI2, hc2⟩ := InvF.push (x := .dec j) (kd := .inr R) (ρf' := ρf') rf hI' ho' rfl hoi (fun _ _ => rfl) ⟨hst, hj, rfl⟩ rfl
          rw [← hc2]
          exact pendCase πb _ _ _ _ Lp' hI2 (okF_tail ho') hrest (by simp [It.isJ] at hk' ⊢; omega) hh ⟨_, List.mem_cons_self, rfl⟩
        | op j =>
          have hji : j = i := hxi
          subst hji
          have hne : ∀ y ∈ πb, y.ix ≠ j := fun y hy => by
            have h1 := ho'
            simp only [okOrderF, Bool.and_eq_true, List.all_eq_true] at h1
            simpa using h1.1.2 y hy
          cases hl : lou.contains j with
          | false =>
            have hob2 := hob'
            simp only [ObF, hoi, hl] at hob2
            obtain ⟨v, hst, hrest⟩ := hob2
            obtain ⟨hI2, hc2⟩ := InvF.push (x := .op j) (kd := .inl v) (ρf' := updo ρf' (l[j]).dst v) rf hI' ho' rfl hoi (fun t ht => updo_ne (by rw [← dstAt_of hoi]; exact ht)) ⟨hst, fun d hd => by rw [hd]; simp [updo, upd_same], hne⟩ rfl
            rw [← hc2]
            exact pendCase πb _ _ _ _ Lp' hI2 (okF_tail ho') hrest (by simp [It.isJ] at hk' ⊢; omega) hh ⟨_, List.mem_cons_self, rfl⟩
          | true =>
            simp only [ObF, hoi, hl, if_true] at hob'
            have hancs := okF_anc ho' rfl
            obtain ⟨hπl, hπn, hπp⟩ := hI'.inπ (.op j) List.mem_cons_self rfl
            simp only [It.ix] at hπl hπn hπp hancs
            have hcl : ∀ t ∈ (l[j]).looksAt l.toArray, curF l ρ0 pend' ear' ρf' t = ρf' t := by
              intro t ht
              unfold curF
              have hen : earV l ear' t = none := earV_none fun e he hed2 => by
                obtain ⟨h1, h2, h3, _⟩ := hI'.inE e he
                rcases rf.look j l[j] hoi t ht e.1 h1 hed2 with h4 | h4 | h4
                · rcases List.mem_cons.1 h3 with h5 | h5
                  · cases h5
                  · have := hancs _ h5
                    simp only [It.ix] at this
                    rw [h4] at this; cases this
                · rw [← h4, hnl] at h2; cases h2
                · have := hI'.closed e.1 j h2 h4 hil
                  rw [hnl] at this; cases this
              have hno : pend'.any (fun p => dstAt l p.1 == some t) = false := by
               rw [List.any_eq_false]
               intro q hq
               simp only [beq_iff_eq]
               intro hqd
               have hql := (hI'.inP q hq).1
               rcases rf.look j l[j] hoi t ht q.1 hql hqd with h2 | h2 | h2
               · have := hanc q.1 h2 hql
                 rw [(hI'.inP q hq).2] at this; cases this
               · exact hπp q hq h2.symm
               · have := hI'.pa q hq (.op j) List.mem_cons_self
                 simp only [It.ix] at this
                 rw [this] at h2; cases h2
              rw [hen, hno]
              rfl
            have hh1 : holds (star (star A (sl (EL ear'))) (sl (Lq ++ Lp'))) w := by
              refine hh.ent ?_
              refine ((Ent.refl A).star ((sl_perm (show (Lq ++ (Lp' ++ EL ear')).Perm (EL ear' ++ (Lq ++ Lp')) from ?_)).trans (sl_append_to _ _))).trans (Ent.assoc' _ _ _)
              rw [← List.append_assoc]
              exact List.perm_append_comm
            have hrun := (hob' (sl (EL ear'))).run (ρ' := curF l ρ0 pend' ear' ρf') (by intro c e; rw [e] at hopd; cases hopd) (by intro cs bb e; rw [e] at hopd; cases hopd) (rf.dlt j l[j] hoi) hcl hw hh1
              (next := wpAnyIn (WF ro) 0 P .any l.toArray Q k (listed.setIfInBounds j true)) (Q := Q) (fun v u M w' hr hvu hw' hh' => ?_)
            · unfold wpOpIn
              simp only [List.getElem?_toArray, hoi]
              split
              · rename_i hwant; rw [if_pos hwant] at hrun; exact hrun
              · rename_i hwant; rw [if_neg hwant] at hrun; exact ⟨fun _ _ => trivial, hrun⟩
            · obtain ⟨Lq2, Lp2, he, hsy, hob2⟩ := hr
              have hp0 : Lq2 = Lq ∨ pend' = [] := hsy.imp id fun hs => by
                cases hpd : pend' with
                | nil => rfl
                | cons q rest =>
                  exfalso
                  have hq : q ∈ pend' := by rw [hpd]; exact List.mem_cons_self
                  obtain ⟨hql, hqn⟩ := hI'.inP q hq
                  rw [← hbm] at hs
                  simp only [okSyncF, List.all_eq_true, List.mem_range, Bool.or_eq_true, beq_iff_eq, List.any_eq_true, Bool.and_eq_true] at hs
                  rcases hs q.1 hql with ⟨y, hy, h1, h2⟩ | h2 | h2
                  · exact (hI'.inπ y (List.mem_cons_of_mem _ hy) (by simpa using h1)).2.2 q hq h2.symm
                  · exact hπp q hq h2
                  · rw [hanc q.1 h2 hql] at hqn; cases hqn
              have hh2 : holds (star A (sl (Lq2 ++ (Lp2 ++ EL ear')))) w' := by
                refine (hh'.ent ((Ent.refl _).star he)).ent ?_
                refine (Ent.assoc _ _ _).trans ((Ent.refl A).star ((sl_append_of _ _).trans (sl_perm (show (EL ear' ++ (Lq2 ++ Lp2)).Perm (Lq2 ++ (Lp2 ++ EL ear')) from ?_))))
                exact List.perm_append_comm.trans (by rw [List.append_assoc])
              have hnd : ∀ q ∈ pend', ∀ t, (l[j]).dst = some t → dstAt l q.1 ≠ some t := fun q hq t e e2 =>
                hπp q hq (rf.dne q.1 j t (hI'.inP q hq).1 hil e2 (by rw [dstAt_of hoi]; exact e))
              have hnde : ∀ t, (l[j]).dst = some t → ∀ e ∈ ear', dstAt l e.1 ≠ some t := fun t e e' he' e2 => by
                obtain ⟨h1, h2, _, _⟩ := hI'.inE e' he'
                have := rf.dne e'.1 j t h1 hil e2 (by rw [dstAt_of hoi]; exact e)
                rw [this, hnl] at h2; cases h2
              have hcur2 : updo (curF l ρ0 pend' ear' ρf') (l[j]).dst v = curF l ρ0 pend' ear' (updo ρf' (l[j]).dst u) := by
                funext t
                by_cases e : (l[j]).dst = some t
                · have h2 : pend'.any (fun p => dstAt l p.1 == some t) = false := by
                    rw [List.any_eq_false]
                    intro q hq
                    simp only [beq_iff_eq]
                    exact hnd q hq t e
                  rw [e]
                  simp only [updo, upd_same, curF, h2, earV_none (hnde t e), cond_false]
                  rw [hvu t e]
                · rw [updo_ne e]
                  unfold curF
                  rw [updo_ne e]
              rw [hcur2]
              refine ih Lq2 (listed.setIfInBounds j true) πb D' pend' ear' _ Lp2 w' ?_ (okF_tail ho') hob2 (by simp [It.isJ] at hk' ⊢; omega) hw' hh2
              refine ⟨by simpa using hI'.sz, ?_, ?_, ?_, ?_, hI'.nP, hI'.nE, hclosed', ?_, ?_, ?_, ?_⟩
              · intro y hy hyj
                obtain ⟨h2, h3, h4⟩ := hI'.inπ y (List.mem_cons_of_mem _ hy) hyj
                exact ⟨h2, by rw [getD_set hlsz, if_neg (hne y hy)]; exact h3, h4⟩
              · intro q hq
                obtain ⟨h2, h3⟩ := hI'.inP q hq
                exact ⟨h2, by rw [getD_set hlsz, if_neg (hπp q hq)]; exact h3⟩
              · intro e he2
                obtain ⟨h1, h2, h3, h4⟩ := hI'.inE e he2
                refine ⟨h1, by rw [getD_set hlsz]; split <;> simp_all, ?_, h4⟩
                rcases List.mem_cons.1 h3 with h5 | h5
                · cases h5
                · exact h5
              · intro i' hi'
                rw [getD_set hlsz]
                by_cases e : i' = j
                · left; rw [if_pos e]
                · rw [if_neg e]
                  rcases hI'.all i' hi' with h2 | h2 | ⟨y, hy, h2, h3⟩
                  · exact .inl h2
                  · exact .inr (.inl h2)
                  · rcases List.mem_cons.1 hy with rfl | hy
                    · exact absurd h3.symm e
                    · exact .inr (.inr ⟨y, hy, h2, h3⟩)
              · intro t ht
                rw [updo_ne (by rw [← dstAt_of hoi]; exact ht j hil hne)]
                exact hI'.base t fun i' hi' hjn => ht i' hi' fun y hy => hjn y (List.mem_cons_of_mem _ hy)
              · intro q hq y hy
                exact hI'.pa q hq y (List.mem_cons_of_mem _ hy)
              · intro q hq o' ho2
                rcases hp0 with hp0 | hp0
                case inr => rw [hp0] at hq; cases hq
                subst hp0
                obtain ⟨h2, h4⟩ := hI'.pq q hq o' ho2
                refine ⟨?_, fun t ht => ⟨?_, (h4 t ht).2⟩⟩
                · cases hkq : q.2.2 with
                  | inl v1 =>
                    rw [hkq] at h2
                    refine ⟨h2.1, fun d hd => ?_⟩
                    rw [updo_ne]
                    · exact h2.2 d hd
                    · intro e; exact hnd q hq d e (by rw [dstAt_of ho2]; exact hd)
                  | inr R1 =>
                    rw [hkq] at h2
                    refine ⟨h2.1, ?_⟩
                    rcases List.mem_cons.1 h2.2 with h5 | h5
                    · cases h5
                    · exact h5
                · rintro ⟨i', hi', ha, hd⟩
                  rw [(h4 t ht).1 ⟨i', hi', ha, hd⟩]
                  refine (updo_ne fun e => ?_).symm
                  have : i' = j := rf.dne i' j t hi' hil hd (by rw [dstAt_of hoi]; exact e)
                  subst this
                  have := hI'.pa q hq (.op i') List.mem_cons_self
                  simp only [It.ix] at this
                  rw [this] at ha; cases ha
              · intro q hq
                rcases hI'.dl q hq with h2 | h2 | h2
                · exact .inl h2
                · exact .inr (.inl h2)
                · exact .inr (.inr fun y hy => h2 y (List.mem_cons_of_mem _ hy))

/-- **A region that draws its order, with operations that float.** -/
theorem g_drawF {L : List SProp} {Q : Exit → Act → World → Prop} {ρ : Nat → Value} {id : Nat} {l : List Oper} (lou : List Nat) (π : List It) (Lq : List SProp) {Lp : List SProp} (hm : P.follows .mixedOrders = true)
    (hok : (okRegion l n (masks l []) && okOrderF lou (masks l []) π && okPermF l.length π) = true) [tk : Take L Lq Lp]
    (h : ObF w0 A ro P l n ds lou (fun ρ' L' => G w0 A L' (fun w => Q .normal (act n ρ' ds) w)) π [] Lq ρ Lp) :
    G w0 A L (fun w => (Code.region id l.toArray true).wpIn (WF ro) 0 P Q (act n ρ ds) w) := by
  simp only [Bool.and_eq_true] at hok
  obtain ⟨⟨h1, h2⟩, h3⟩ := hok
  refine G.perm tk.perm fun w hw hh => ?_
  refine wpIn_region_any hm ?_
  simp only [okPermF, Bool.and_eq_true, beq_iff_eq, List.all_eq_true, List.mem_range, List.any_eq_true] at h3
  obtain ⟨⟨hlen, hall⟩, hlt⟩ := h3
  have hrep : ∀ j, (Array.replicate l.toArray.size false).getD j false = false := fun j => by
    simp only [Array.getD_eq_getD_getElem?, Array.getElem?_replicate]
    split <;> rfl
  have := draw_soundF (ro := ro) (P := P) (ρ0 := ρ) (RegFacts.of h1) rfl (Q := Q) (fun _ _ x => x) l.toArray.size Lq (Array.replicate l.toArray.size false) π [] [] [] ρ Lp w.drew ?_ h2 h (by simp [hlen]) (hw.trans (.drew w)) ((hh.le (Le.refl _)).ent (by simp only [EL, List.flatMap_nil, List.append_nil]; exact Ent.refl _))
  · have e : curF l ρ [] [] ρ = ρ := by funext t; simp [curF, earV]
    rw [e] at this
    exact this
  · refine ⟨by simp, ?_, by simp, by simp, ?_, by simp, by simp, ?_, ?_, by simp, by simp, by simp⟩
    · intro x hx _
      have := hlt x hx
      rw [Nat.blt_eq] at this
      exact ⟨this, hrep _, by simp⟩
    · intro j hj
      obtain ⟨x, hx, h4, h5⟩ := hall j hj
      exact .inr (.inr ⟨x, hx, by simpa using h4, h5⟩)
    · intro i j hi
      rw [hrep i] at hi; cases hi
    · intro t _
      rfl

variable {Lq : List SProp} {i : Nat} {π : List It} {D : List (Nat × Kd)} {ρ : Nat → Value} {Lp : List SProp} {o : Oper}
theorem obf_nil (h : K ρ (Lq ++ Lp)) : ObF w0 A ro P l n ds lou K [] D Lq ρ Lp := h
theorem obf_q (hi : l[i]? = some o) (hl : lou.contains i = false) (h : ∃ v, (∀ X, OStep w0 A ro P l.toArray n ds ρ (Lq ++ X) o (fun u M => u = v ∧ M = Lq ++ X)) ∧ ObF w0 A ro P l n ds lou K π D Lq (updo ρ o.dst v) Lp) :
    ObF w0 A ro P l n ds lou K (.op i :: π) D Lq ρ Lp := by
  simp only [ObF, hi, hl]
  exact h
theorem obf_l (hi : l[i]? = some o) (hl : lou.contains i = true) (h : ∀ X, OStep w0 (star A X) ro P l.toArray n ds ρ (Lq ++ Lp) o (fun v M => ∃ Lp', Ent (sl M) (sl (Lq ++ Lp')) ∧ ObF w0 A ro P l n ds lou K π D Lq (updo ρ o.dst v) Lp')) :
    ObF w0 A ro P l n ds lou K (.op i :: π) D Lq ρ Lp := by
  simp only [ObF, hi, hl, if_true]
  exact fun X Q hn => h X Q fun v M ⟨Lp', h1, h2⟩ => hn v M ⟨Lq, Lp', h1, .inl rfl, h2⟩
theorem obf_s (Lq' : List SProp) (hi : l[i]? = some o) (hl : lou.contains i = true) (hs : okSyncF (masks l []) l.length i π = true)
    (h : ∀ X, OStep w0 (star A X) ro P l.toArray n ds ρ (Lq ++ Lp) o (fun v M => ∃ Lp', Ent (sl M) (sl (Lq' ++ Lp')) ∧ ObF w0 A ro P l n ds lou K π D Lq' (updo ρ o.dst v) Lp')) :
    ObF w0 A ro P l n ds lou K (.op i :: π) D Lq ρ Lp := by
  simp only [ObF, hi, hl, if_true]
  exact fun X Q hn => h X Q fun v M ⟨Lp', h1, h2⟩ => hn v M ⟨Lq', Lp', h1, .inr hs, h2⟩
/-- A floating operation is told: what is said of what it makes. -/
theorem obf_d (R : Kd) (hi : l[i]? = some o) (h : ∀ X, OStep w0 A ro P l.toArray n ds ρ (Lq ++ X) o (fun v M => ∃ M', Ent (sl M) (sl (Lq ++ (X ++ M'))) ∧ R v M')) (k : ObF w0 A ro P l n ds lou K π ((i, R) :: D) Lq ρ Lp) :
    ObF w0 A ro P l n ds lou K (.dec i :: π) D Lq ρ Lp := by
  simp only [ObF, hi]
  exact ⟨R, h, k⟩
theorem obf_j {R : Kd} (hi : l[i]? = some o) (hR : (i, R) ∈ D) (h : ∀ v M, R v M → ObF w0 A ro P l n ds lou K π D Lq (updo ρ o.dst v) (M ++ Lp)) : ObF w0 A ro P l n ds lou K (.join i :: π) D Lq ρ Lp := by
  simp only [ObF, hi]
  exact ⟨R, hR, h⟩
end
end Go.Sl
