/- Parts of a proof, in order. -/
import Derived.Test.YtfakoemkapankaaZLinkNews2
import Derived.Laws.Strings

/- A region that draws its order, with operations that float: they take nothing but what is read, and what they make is had later. Plain library, no program in sight. -/
namespace Go.Sl
open Go Go.Proofs

/-- What the walk does: an operation; a floating one told; what it made, had. -/
inductive It where
  | op (i : Nat)
  | dec (i : Nat)
  | join (i : Nat)
def It.ix : It → Nat
  | .op i => i
  | .dec i => i
  | .join i => i
def It.isJ : It → Bool
  | .join _ => true
  | _ => false
abbrev Kd := Value → List SProp → Prop
/-- The order in which the walk takes the operations. -/
def okOrderF (lou : List Nat) (b : List Nat) : List It → Bool
  | [] => true
  | .op i :: π => (!lou.contains i || π.all fun y => y.isJ || isAnc b y.ix i) && (π.all fun y => !isAnc b i y.ix) && (π.all fun y => y.ix != i) && okOrderF lou b π
  | .dec i :: π => (π.any fun y => y.isJ && y.ix == i) && (π.all fun y => !isAnc b i y.ix) && (π.all fun y => y.isJ || y.ix != i) && okOrderF lou b π
  | .join i :: π => (π.all fun y => y.isJ || isAnc b y.ix i) && (π.all fun y => !y.isJ || y.ix != i) && okOrderF lou b π
def okPermF (m : Nat) (π : List It) : Bool := ((π.filter fun y => !y.isJ).length == m) && ((List.range m).all fun i => π.any fun y => !y.isJ && y.ix == i) && (π.all fun y => Nat.blt y.ix m)
def okSyncF (b : List Nat) (m i : Nat) (π : List It) : Bool := (List.range m).all fun j => (π.any fun y => !y.isJ && y.ix == j) || (j == i || isAnc b i j)

def ObF (w0 : World) (A : SProp) (ro : Option Nat) (P : Program) (l : List Oper) (n : Nat) (ds : List Nat) (lou : List Nat) (K : (Nat → Value) → List SProp → Prop) : List It → List (Nat × Kd) → List SProp → (Nat → Value) → List SProp → Prop
  | [], _, Lq, ρ, Lp => K ρ (Lq ++ Lp)
  | .op i :: π, D, Lq, ρ, Lp => match l[i]? with
    | none => False
    | some o => if lou.contains i then
        ∀ X, OStep w0 (star A X) ro P l.toArray n ds ρ (Lq ++ Lp) o (fun v M => ∃ Lq' Lp', Ent (sl M) (sl (Lq' ++ Lp')) ∧ (Lq' = Lq ∨ okSyncF (masks l []) l.length i π = true) ∧ ObF w0 A ro P l n ds lou K π D Lq' (updo ρ o.dst v) Lp')
      else ∃ v, (∀ X, OStep w0 A ro P l.toArray n ds ρ (Lq ++ X) o (fun u M => u = v ∧ M = Lq ++ X)) ∧ ObF w0 A ro P l n ds lou K π D Lq (updo ρ o.dst v) Lp
  | .dec i :: π, D, Lq, ρ, Lp => match l[i]? with
    | none => False
    | some o => ∃ R : Kd, (∀ X, OStep w0 A ro P l.toArray n ds ρ (Lq ++ X) o (fun v M => ∃ M', Ent (sl M) (sl (Lq ++ (X ++ M'))) ∧ R v M')) ∧ ObF w0 A ro P l n ds lou K π ((i, R) :: D) Lq ρ Lp
  | .join i :: π, D, Lq, ρ, Lp => match l[i]? with
    | none => False
    | some o => ∃ R : Kd, (i, R) ∈ D ∧ ∀ v M, R v M → ObF w0 A ro P l n ds lou K π D Lq (updo ρ o.dst v) (M ++ Lp)

/-- Walked and not run: with the value it will have, or with what will be said of what it makes. -/
abbrev Pe := Nat × (Nat → Value) × (Value ⊕ Kd)
/-- Run, and not had yet. -/
abbrev Ee := Nat × Value × List SProp × Kd
def earV (l : List Oper) (ear : List Ee) (t : Nat) : Option Value := (ear.find? (fun e => dstAt l e.1 == some t)).map (·.2.1)
def EL (ear : List Ee) : List SProp := ear.flatMap (·.2.2.1)
def curF (l : List Oper) (ρ0 : Nat → Value) (pend : List Pe) (ear : List Ee) (ρf : Nat → Value) : Nat → Value := fun t => match earV l ear t with
  | some v => v
  | none => cond (pend.any (fun p => dstAt l p.1 == some t)) (ρ0 t) (ρf t)
theorem earV_some {l : List Oper} {ear : List Ee} {t : Nat} {v : Value} (h : earV l ear t = some v) : ∃ e ∈ ear, dstAt l e.1 = some t ∧ e.2.1 = v := by
  unfold earV at h
  rw [Option.map_eq_some_iff] at h
  obtain ⟨e, he, hv⟩ := h
  exact ⟨e, List.mem_of_find?_eq_some he, by simpa using List.find?_some he, hv⟩
theorem earV_none {l : List Oper} {ear : List Ee} {t : Nat} (h : ∀ e ∈ ear, dstAt l e.1 ≠ some t) : earV l ear t = none := by
  unfold earV
  rw [Option.map_eq_none_iff, List.find?_eq_none]
  intro e he
  simpa using h e he
theorem earV_drop {l : List Oper} {ea eb : List Ee} {e : Ee} {t : Nat} (h : dstAt l e.1 ≠ some t) : earV l (ea ++ e :: eb) t = earV l (ea ++ eb) t := by
  unfold earV
  congr 1
  rw [List.find?_append, List.find?_append, List.find?_cons]
  have : (dstAt l e.1 == some t) = false := by simpa using h
  rw [this]
theorem earV_cons {l : List Oper} {ear : List Ee} {e : Ee} {t : Nat} (h : dstAt l e.1 ≠ some t) : earV l (e :: ear) t = earV l ear t := earV_drop (ea := []) h
theorem earV_head {l : List Oper} {ear : List Ee} {e : Ee} {t : Nat} (h : dstAt l e.1 = some t) : earV l (e :: ear) t = some e.2.1 := by
  unfold earV
  rw [List.find?_cons]
  simp [h]

section
variable {w0 : World} {A : SProp} {ro : Option Nat} {P : Program} {n : Nat} {ds : List Nat}
structure InvF (w0 : World) (A : SProp) (ro : Option Nat) (P : Program) (l : List Oper) (n : Nat) (ds : List Nat) (b : List Nat) (Lq : List SProp) (ρ0 : Nat → Value) (listed : Array Bool) (π : List It) (D : List (Nat × Kd)) (pend : List Pe) (ear : List Ee) (ρf : Nat → Value) : Prop where
  sz : listed.size = l.length
  inπ : ∀ x ∈ π, x.isJ = false → x.ix < l.length ∧ listed.getD x.ix false = false ∧ ∀ p ∈ pend, p.1 ≠ x.ix
  inP : ∀ p ∈ pend, p.1 < l.length ∧ listed.getD p.1 false = false
  inE : ∀ e ∈ ear, e.1 < l.length ∧ listed.getD e.1 false = true ∧ It.join e.1 ∈ π ∧ e.2.2.2 e.2.1 e.2.2.1
  all : ∀ j, j < l.length → listed.getD j false = true ∨ (∃ p ∈ pend, p.1 = j) ∨ ∃ x ∈ π, x.isJ = false ∧ x.ix = j
  nP : (pend.map (·.1)).Nodup
  nE : (ear.map (·.1)).Nodup
  closed : ∀ i j, listed.getD i false = true → isAnc b i j = true → j < l.length → listed.getD j false = true
  base : ∀ t, (∀ j, j < l.length → (∀ x ∈ π, x.ix ≠ j) → dstAt l j ≠ some t) → ρf t = ρ0 t
  pa : ∀ p ∈ pend, ∀ x ∈ π, isAnc b p.1 x.ix = false
  pq : ∀ p ∈ pend, ∀ o, l[p.1]? = some o → (match p.2.2 with
      | .inl v => (∀ X, OStep w0 A ro P l.toArray n ds p.2.1 (Lq ++ X) o (fun u M => u = v ∧ M = Lq ++ X)) ∧ (∀ d, o.dst = some d → ρf d = v)
      | .inr R => (∀ X, OStep w0 A ro P l.toArray n ds p.2.1 (Lq ++ X) o (fun v M => ∃ M', Ent (sl M) (sl (Lq ++ (X ++ M'))) ∧ R v M')) ∧ It.join p.1 ∈ π) ∧
    ∀ t ∈ o.looksAt l.toArray, ((∃ j, j < l.length ∧ isAnc b p.1 j = true ∧ dstAt l j = some t) → p.2.1 t = ρf t) ∧ ((∀ j, j < l.length → isAnc b p.1 j = true → dstAt l j ≠ some t) → p.2.1 t = ρ0 t)
  dl : ∀ q ∈ D, (∃ p ∈ pend, p.1 = q.1 ∧ p.2.2 = .inr q.2) ∨ (∃ e ∈ ear, e.1 = q.1 ∧ e.2.2.2 = q.2) ∨ (∀ x ∈ π, x.ix ≠ q.1)

variable {l : List Oper} {b lou : List Nat} {Lq : List SProp} {ρ0 : Nat → Value} {K : (Nat → Value) → List SProp → Prop}

theorem okF_tail {x : It} {π : List It} (h : okOrderF lou b (x :: π) = true) : okOrderF lou b π = true := by
  cases x <;> simp only [okOrderF, Bool.and_eq_true] at h <;> exact h.2
theorem okF_anc {x : It} {π : List It} (h : okOrderF lou b (x :: π) = true) (hx : x.isJ = false) : ∀ y ∈ π, isAnc b x.ix y.ix = false := by
  cases x with
  | join i => cases hx
  | op i =>
    simp only [okOrderF, Bool.and_eq_true, List.all_eq_true] at h
    intro y hy; simpa [It.ix] using h.1.1.2 y hy
  | dec i =>
    simp only [okOrderF, Bool.and_eq_true, List.all_eq_true] at h
    intro y hy; simpa [It.ix] using h.1.1.2 y hy
theorem okF_ne {x : It} {π : List It} (h : okOrderF lou b (x :: π) = true) (hx : x.isJ = false) : ∀ y ∈ π, y.isJ = false → y.ix ≠ x.ix := by
  cases x with
  | join i => cases hx
  | op i =>
    simp only [okOrderF, Bool.and_eq_true, List.all_eq_true] at h
    intro y hy hj; simpa [It.ix] using h.1.2 y hy
  | dec i =>
    simp only [okOrderF, Bool.and_eq_true, List.all_eq_true] at h
    intro y hy hj; simpa [hj, It.ix] using h.1.2 y hy

/-- A quiet operation, or a floating one, is walked. -/
theorem InvF.push (rf : RegFacts l n b) {listed : Array Bool} {x : It} {π : List It} {D D' : List (Nat × Kd)} {pend : List Pe} {ear : List Ee} {ρf ρf' : Nat → Value} {o : Oper} {kd : Value ⊕ Kd} (h : InvF w0 A ro P l n ds b Lq ρ0 listed (x :: π) D pend ear ρf)
    (ho : okOrderF lou b (x :: π) = true) (hx : x.isJ = false) (hk : l[x.ix]? = some o) (hρ : ∀ t, dstAt l x.ix ≠ some t → ρf' t = ρf t)
    (hkd : match kd with
      | .inl v => (∀ X, OStep w0 A ro P l.toArray n ds ρf (Lq ++ X) o (fun u M => u = v ∧ M = Lq ++ X)) ∧ (∀ d, o.dst = some d → ρf' d = v) ∧ (∀ y ∈ π, y.ix ≠ x.ix)
      | .inr R => (∀ X, OStep w0 A ro P l.toArray n ds ρf (Lq ++ X) o (fun v M => ∃ M', Ent (sl M) (sl (Lq ++ (X ++ M'))) ∧ R v M')) ∧ It.join x.ix ∈ π ∧ ρf' = ρf)
    (hD : match kd with
      | .inl _ => D' = D
      | .inr R => D' = (x.ix, R) :: D) :
    InvF w0 A ro P l n ds b Lq ρ0 listed π D' ((x.ix, ρf, kd) :: pend) ear ρf' ∧ curF l ρ0 ((x.ix, ρf, kd) :: pend) ear ρf' = curF l ρ0 pend ear ρf := by
  have hkl : x.ix < l.length := (List.getElem?_eq_some_iff.1 hk).1
  have hkd' := dstAt_of hk
  obtain ⟨_, hkn, hkp⟩ := h.inπ x List.mem_cons_self hx
  have hbase : ∀ t, dstAt l x.ix = some t → ρf t = ρ0 t := fun t ht => h.base t fun j hj hjn e => hjn x List.mem_cons_self (rf.dne j x.ix t hj hkl e ht).symm
  refine ⟨⟨h.sz, ?_, ?_, ?_, ?_, ?_, h.nE, h.closed, ?_, ?_, ?_, ?_⟩, ?_⟩
  · intro y hy hj
    obtain ⟨h1, h2, h3⟩ := h.inπ y (List.mem_cons_of_mem _ hy) hj
    refine ⟨h1, h2, fun p hp => ?_⟩
    rcases List.mem_cons.1 hp with rfl | hp
    · exact (okF_ne ho hx y hy hj).symm
    · exact h3 p hp
  · intro p hp
    rcases List.mem_cons.1 hp with rfl | hp
    · exact ⟨hkl, hkn⟩
    · exact h.inP p hp
  · intro e he
    obtain ⟨h1, h2, h3, h4⟩ := h.inE e he
    refine ⟨h1, h2, ?_, h4⟩
    rcases List.mem_cons.1 h3 with h3 | h3
    · rw [← h3] at hx; cases hx
    · exact h3
  · intro j hj
    rcases h.all j hj with h1 | ⟨p, hp, rfl⟩ | ⟨y, hy, h1, h2⟩
    · exact .inl h1
    · exact .inr (.inl ⟨p, List.mem_cons_of_mem _ hp, rfl⟩)
    · rcases List.mem_cons.1 hy with rfl | hy
      · exact .inr (.inl ⟨_, List.mem_cons_self, h2⟩)
      · exact .inr (.inr ⟨y, hy, h1, h2⟩)
  · rw [List.map_cons, List.nodup_cons]
    refine ⟨fun hm => ?_, h.nP⟩
    obtain ⟨p, hp, e⟩ := List.mem_map.1 hm
    exact hkp p hp e
  · intro t ht
    have hs : ∀ (_ : dstAt l x.ix ≠ some t), ρf' t = ρ0 t := fun hne => by
      rw [hρ t hne]
      refine h.base t fun j hj hjn => ht j hj fun y hy => hjn y (List.mem_cons_of_mem _ hy)
    cases kd with
    | inl v =>
      exact hs (ht x.ix hkl hkd.2.2)
    | inr R =>
      by_cases e : dstAt l x.ix = some t
      · rw [hkd.2.2]; exact hbase t e
      · exact hs e
  · intro p hp y hy
    rcases List.mem_cons.1 hp with rfl | hp
    · exact okF_anc ho hx y hy
    · exact h.pa p hp y (List.mem_cons_of_mem _ hy)
  · intro p hp o' ho'
    rcases List.mem_cons.1 hp with rfl | hp
    · rw [hk] at ho'
      obtain rfl := Option.some.inj ho'
      refine ⟨?_, fun t ht => ⟨?_, ?_⟩⟩
      · cases kd with
        | inl v => exact ⟨hkd.1, hkd.2.1⟩
        | inr R => exact ⟨hkd.1, hkd.2.1⟩
      · rintro ⟨j, hj, ha, hd⟩
        refine (hρ t fun e => ?_).symm
        have : j = x.ix := rf.dne j x.ix t hj hkl hd e
        subst this
        rw [rf.irr _ hj] at ha; cases ha
      · intro hno
        refine h.base t fun j hj hjn e => ?_
        rcases rf.look x.ix o hk t ht j hj e with h1 | h1 | h1
        · exact hno j hj h1 e
        · exact hjn x List.mem_cons_self h1
        · rcases h.all j hj with h2 | ⟨p, hp, rfl⟩ | ⟨y, hy, _, h2⟩
          · have := h.closed j x.ix h2 h1 hkl
            rw [hkn] at this; cases this
          · rw [h.pa p hp x List.mem_cons_self] at h1; cases h1
          · exact hjn y hy h2
    · obtain ⟨h1, h3⟩ := h.pq p hp o' ho'
      have hne : p.1 ≠ x.ix := hkp p hp
      have hpl := (h.inP p hp).1
      have hpak := h.pa p hp x List.mem_cons_self
      refine ⟨?_, fun t ht => ⟨?_, (h3 t ht).2⟩⟩
      · cases hq : p.2.2 with
        | inl v =>
          rw [hq] at h1
          refine ⟨h1.1, fun d hd => ?_⟩
          rw [hρ d]
          · exact h1.2 d hd
          · intro e
            exact hne (rf.dne p.1 x.ix d hpl hkl (by rw [dstAt_of ho']; exact hd) e)
        | inr R =>
          rw [hq] at h1
          refine ⟨h1.1, ?_⟩
          rcases List.mem_cons.1 h1.2 with h4 | h4
          · rw [← h4] at hx; cases hx
          · exact h4
      · rintro ⟨j, hj, ha, hd⟩
        rw [(h3 t ht).1 ⟨j, hj, ha, hd⟩]
        refine (hρ t fun e => ?_).symm
        have : j = x.ix := rf.dne j x.ix t hj hkl hd e
        subst this
        rw [hpak] at ha; cases ha
  · have hold : ∀ q ∈ D, (∃ p ∈ ((x.ix, ρf, kd) :: pend : List Pe), p.1 = q.1 ∧ p.2.2 = .inr q.2) ∨ (∃ e ∈ ear, e.1 = q.1 ∧ e.2.2.2 = q.2) ∨ (∀ y ∈ π, y.ix ≠ q.1) := by
      intro q hq
      rcases h.dl q hq with ⟨p, hp, h1⟩ | h1 | h1
      · exact .inl ⟨p, List.mem_cons_of_mem _ hp, h1⟩
      · exact .inr (.inl h1)
      · exact .inr (.inr fun y hy => h1 y (List.mem_cons_of_mem _ hy))
    cases kd with
    | inl v => rw [hD]; exact hold
    | inr R =>
      rw [hD]
      intro q hq
      rcases List.mem_cons.1 hq with rfl | hq
      · exact .inl ⟨_, List.mem_cons_self, rfl, rfl⟩
      · exact hold q hq
  · funext t
    unfold curF
    cases earV l ear t with
    | some v => rfl
    | none =>
      simp only [List.any_cons]
      by_cases e : dstAt l x.ix = some t
      · have hno : pend.any (fun p => dstAt l p.1 == some t) = false := by
          rw [List.any_eq_false]
          intro p hp
          simp only [beq_iff_eq]
          intro e2
          exact hkp p hp (rf.dne p.1 x.ix t (h.inP p hp).1 hkl e2 e)
        simp [e, hno, hbase t e]
      · have e1 : (dstAt l x.ix == some t) = false := by simpa using e
        rw [e1, Bool.false_or, hρ t e]

/-- What was made ahead of its time is had. -/
theorem InvF.absorb (rf : RegFacts l n b) {listed : Array Bool} {f : Nat} {π : List It} {D : List (Nat × Kd)} {pend : List Pe} {ear : List Ee} {ρf : Nat → Value} {Lp : List SProp} (h : InvF w0 A ro P l n ds b Lq ρ0 listed (.join f :: π) D pend ear ρf)
    (ho : okOrderF lou b (.join f :: π) = true) (hf : listed.getD f false = true) (hob : ObF w0 A ro P l n ds lou K (.join f :: π) D Lq ρf Lp) :
    ∃ ear' ρf' Lp', InvF w0 A ro P l n ds b Lq ρ0 listed π D pend ear' ρf' ∧ ObF w0 A ro P l n ds lou K π D Lq ρf' Lp' ∧ curF l ρ0 pend ear' ρf' = curF l ρ0 pend ear ρf ∧ (Lp ++ EL ear).Perm (Lp' ++ EL ear') := by
  simp only [ObF] at hob
  cases hk : l[f]? with
  | none => rw [hk] at hob; exact hob.elim
  | some o =>
    rw [hk] at hob
    obtain ⟨R, hR, hnext⟩ := hob
    have hfl : f < l.length := (List.getElem?_eq_some_iff.1 hk).1
    have hdf := dstAt_of hk
    simp only [okOrderF, Bool.and_eq_true, List.all_eq_true] at ho
    have hnj : ∀ y ∈ π, y.ix ≠ f := fun y hy e => by
      have h1 := ho.1.1 y hy
      have h2 := ho.1.2 y hy
      cases hj : y.isJ with
      | true => rw [hj] at h2; simp [e] at h2
      | false =>
        rw [hj] at h1
        simp only [Bool.false_or] at h1
        rw [e, rf.irr f hfl] at h1; cases h1
    have hpf : ∀ p ∈ pend, p.1 ≠ f := fun p hp e => by
      have := (h.inP p hp).2
      rw [e, hf] at this; cases this
    rcases h.dl (f, R) hR with ⟨p, hp, h1, _⟩ | ⟨e, he, h1, h2⟩ | h1
    · exact absurd h1 (hpf p hp)
    · obtain ⟨ea, eb, hee⟩ := List.append_of_mem he
      have h1 : e.1 = f := h1
      have h2 : e.2.2.2 = R := h2
      have hRv : R e.2.1 e.2.2.1 := h2 ▸ (h.inE e he).2.2.2
      have hnE := h.nE
      rw [hee, List.map_append, List.map_cons] at hnE
      have hsplit := List.nodup_append.1 hnE
      have hne : ∀ q ∈ ea ++ eb, q.1 ≠ f := by
        intro q hq e2
        rcases List.mem_append.1 hq with hq | hq
        · exact hsplit.2.2 q.1 (List.mem_map.2 ⟨q, hq, rfl⟩) e.1 List.mem_cons_self (by rw [e2, h1])
        · exact (List.nodup_cons.1 hsplit.2.1).1 (by rw [h1, ← e2]; exact List.mem_map.2 ⟨q, hq, rfl⟩)
      have hmem : ∀ q, q ∈ ea ++ eb → q ∈ ear := fun q hq => by
        rw [hee]
        rcases List.mem_append.1 hq with hq | hq
        · exact List.mem_append_left _ hq
        · exact List.mem_append_right _ (List.mem_cons_of_mem _ hq)
      have hmem' : ∀ q, q ∈ ear → q = e ∨ q ∈ ea ++ eb := fun q hq => by
        rw [hee] at hq
        rcases List.mem_append.1 hq with hq | hq
        · exact .inr (List.mem_append_left _ hq)
        · rcases List.mem_cons.1 hq with hq | hq
          · exact .inl hq
          · exact .inr (List.mem_append_right _ hq)
      refine ⟨ea ++ eb, updo ρf o.dst e.2.1, e.2.2.1 ++ Lp, ⟨h.sz, ?_, h.inP, ?_, ?_, h.nP, ?_, h.closed, ?_, ?_, ?_, ?_⟩, hnext _ _ hRv, ?_, ?_⟩
      · exact fun y hy hj => h.inπ y (List.mem_cons_of_mem _ hy) hj
      · intro q hq
        obtain ⟨a1, a2, a3, a4⟩ := h.inE q (hmem q hq)
        refine ⟨a1, a2, ?_, a4⟩
        rcases List.mem_cons.1 a3 with a3 | a3
        · exact absurd (by simpa using a3) (hne q hq)
        · exact a3
      · intro j hj
        rcases h.all j hj with a1 | a1 | ⟨y, hy, a1, a2⟩
        · exact .inl a1
        · exact .inr (.inl a1)
        · rcases List.mem_cons.1 hy with rfl | hy
          · cases a1
          · exact .inr (.inr ⟨y, hy, a1, a2⟩)
      · rw [List.map_append, List.nodup_append]
        exact ⟨hsplit.1, (List.nodup_cons.1 hsplit.2.1).2, fun x hx y hy => hsplit.2.2 x hx y (List.mem_cons_of_mem _ hy)⟩
      · intro t ht
        rw [updo_ne (by rw [← hdf]; exact ht f hfl hnj)]
        refine h.base t fun j hj hjn => ht j hj fun y hy => hjn y (List.mem_cons_of_mem _ hy)
      · exact fun p hp y hy => h.pa p hp y (List.mem_cons_of_mem _ hy)
      · intro p hp o' ho'
        obtain ⟨a1, a3⟩ := h.pq p hp o' ho'
        refine ⟨?_, fun t ht => ⟨?_, (a3 t ht).2⟩⟩
        · cases hq : p.2.2 with
          | inl v =>
            rw [hq] at a1
            refine ⟨a1.1, fun d hd => ?_⟩
            rw [updo_ne]
            · exact a1.2 d hd
            · intro e2
              exact hpf p hp (rf.dne p.1 f d (h.inP p hp).1 hfl (by rw [dstAt_of ho']; exact hd) (by rw [hdf]; exact e2))
          | inr R' =>
            rw [hq] at a1
            refine ⟨a1.1, ?_⟩
            rcases List.mem_cons.1 a1.2 with a4 | a4
            · exact absurd (by simpa using a4) (hpf p hp)
            · exact a4
        · rintro ⟨j, hj, ha, hd⟩
          rw [(a3 t ht).1 ⟨j, hj, ha, hd⟩]
          refine (updo_ne fun e2 => ?_).symm
          have : j = f := rf.dne j f t hj hfl hd (by rw [hdf]; exact e2)
          subst this
          have := h.pa p hp (.join j) List.mem_cons_self
          simp only [It.ix] at this
          rw [this] at ha; cases ha
      · intro q hq
        rcases h.dl q hq with a1 | ⟨e', he', a1, a2⟩ | a1
        · exact .inl a1
        · rcases hmem' e' he' with rfl | he'
          · exact .inr (.inr fun y hy => by rw [← a1, h1]; exact hnj y hy)
          · exact .inr (.inl ⟨e', he', a1, a2⟩)
        · exact .inr (.inr fun y hy => a1 y (List.mem_cons_of_mem _ hy))
      · funext t
        unfold curF
        by_cases e2 : dstAt l f = some t
        · have hl1 : earV l ear t = some e.2.1 := by
            cases hc : earV l ear t with
            | none =>
              exfalso
              unfold earV at hc
              rw [Option.map_eq_none_iff, List.find?_eq_none] at hc
              have := hc e he
              rw [h1, e2] at this
              simp at this
            | some v =>
              obtain ⟨e', he', b1, b2⟩ := earV_some hc
              have b3 : e'.1 = f := rf.dne e'.1 f t (h.inE e' he').1 hfl b1 e2
              rcases hmem' e' he' with rfl | he''
              · rw [b2]
              · exact absurd b3 (hne e' he'')
          have hl2 : earV l (ea ++ eb) t = none := earV_none fun q hq b1 => hne q hq (rf.dne q.1 f t (h.inE q (hmem q hq)).1 hfl b1 e2)
          have hno : pend.any (fun p => dstAt l p.1 == some t) = false := by
            rw [List.any_eq_false]
            intro p hp
            simp only [beq_iff_eq]
            intro b1
            exact hpf p hp (rf.dne p.1 f t (h.inP p hp).1 hfl b1 e2)
          rw [hl1, hl2]
          simp only [hno, cond_false]
          have : o.dst = some t := by rw [← hdf]; exact e2
          rw [this]
          simp [updo, upd_same]
        · have : earV l ear t = earV l (ea ++ eb) t := by rw [hee]; exact earV_drop (by rw [h1]; exact e2)
          rw [this, updo_ne (by rw [← hdf]; exact e2)]
      · rw [hee]
        simp only [EL, List.flatMap_append, List.flatMap_cons]
        have : (Lp ++ (List.flatMap (fun x : Ee => x.2.2.1) ea ++ (e.2.2.1 ++ List.flatMap (fun x : Ee => x.2.2.1) eb))).Perm (e.2.2.1 ++ (Lp ++ (List.flatMap (fun x : Ee => x.2.2.1) ea ++ List.flatMap (fun x : Ee => x.2.2.1) eb))) := by
          rw [← List.append_assoc Lp, ← List.append_assoc Lp]
          exact (List.perm_append_comm_assoc _ _ _)
        simpa using this
    · exact absurd rfl (h1 (.join f) List.mem_cons_self)

/-- Walked till i is reached. -/
theorem InvF.pops (rf : RegFacts l n b) {listed : Array Bool} {x0 : It} {πb : List It} (hx0 : x0.isJ = false) : ∀ (πa : List It) {D : List (Nat × Kd)} {pend : List Pe} {ear : List Ee} {ρf : Nat → Value} {Lp : List SProp}, InvF w0 A ro P l n ds b Lq ρ0 listed (πa ++ x0 :: πb) D pend ear ρf →
    okOrderF lou b (πa ++ x0 :: πb) = true → (∀ k, isAnc b x0.ix k = true → k < l.length → listed.getD k false = true) → ObF w0 A ro P l n ds lou K (πa ++ x0 :: πb) D Lq ρf Lp →
    ∃ D' pend' ear' ρf' Lp', InvF w0 A ro P l n ds b Lq ρ0 listed (x0 :: πb) D' pend' ear' ρf' ∧ okOrderF lou b (x0 :: πb) = true ∧ ObF w0 A ro P l n ds lou K (x0 :: πb) D' Lq ρf' Lp' ∧ curF l ρ0 pend' ear' ρf' = curF l ρ0 pend ear ρf ∧
      pend'.length = pend.length + (πa.filter fun y => !y.isJ).length ∧ (Lp ++ EL ear).Perm (Lp' ++ EL ear')
  | [], D, pend, ear, ρf, Lp, h, ho, _, hob => ⟨D, pend, ear, ρf, Lp, h, ho, hob, rfl, by simp, .refl _⟩
  | .join f :: πa, D, pend, ear, ρf, Lp, h, ho, hr, hob => by
    have ho' : okOrderF lou b (.join f :: (πa ++ x0 :: πb)) = true := ho
    have hlf : listed.getD f false = true := by
      have h1 := ho'
      simp only [okOrderF, Bool.and_eq_true, List.all_eq_true] at h1
      have h2 := h1.1.1 x0 (by simp)
      rw [hx0] at h2
      simp only [Bool.false_or] at h2
      have hff : f < l.length := by
        have hob' : ObF w0 A ro P l n ds lou K (.join f :: (πa ++ x0 :: πb)) D Lq ρf Lp := hob
        simp only [ObF] at hob'
        cases hc : l[f]? with
        | none => rw [hc] at hob'; exact hob'.elim
        | some o => exact (List.getElem?_eq_some_iff.1 hc).1
      exact hr f h2 hff
    obtain ⟨ear1, ρf1, Lp1, h1, hob1, hc1, hp1⟩ := InvF.absorb (π := πa ++ x0 :: πb) rf h ho' hlf hob
    obtain ⟨D', pend', ear', ρf', Lp', a1, a2, a3, a4, a5, a6⟩ := InvF.pops rf hx0 πa h1 (okF_tail ho') hr hob1
    exact ⟨D', pend', ear', ρf', Lp', a1, a2, a3, a4.trans hc1, by rw [a5]; simp [It.isJ], hp1.trans a6⟩
  | .dec k :: πa, D, pend, ear, ρf, Lp, h, ho, hr, hob => by
    have ho' : okOrderF lou b (.dec k :: (πa ++ x0 :: πb)) = true := ho
    have hob' : ObF w0 A ro P l n ds lou K (.dec k :: (πa ++ x0 :: πb)) D Lq ρf Lp := hob
    simp only [ObF] at hob'
    cases hk : l[k]? with
    | none => rw [hk] at hob'; exact hob'.elim
    | some o =>
      rw [hk] at hob'
      obtain ⟨R, hst, hrest⟩ := hob'
      have hj : It.join k ∈ πa ++ x0 :: πb := by
        have h1 := ho'
        simp only [okOrderF, Bool.and_eq_true, List.any_eq_true] at h1
        obtain ⟨y, hy, hy1, hy2⟩ := h1.1.1.1
        cases y with
        | op i => cases hy1
        | dec i => cases hy1
        | join i =>
          have : i = k := by simpa [It.ix] using hy2
          subst this; exact hy
      obtain ⟨hi, hc⟩ := InvF.push (x := .dec k) (π := πa ++ x0 :: πb) (kd := .inr R) (ρf' := ρf) rf h ho' rfl hk (fun _ _ => rfl) ⟨hst, hj, rfl⟩ rfl
      obtain ⟨D', pend', ear', ρf', Lp', a1, a2, a3, a4, a5, a6⟩ := InvF.pops rf hx0 πa hi (okF_tail ho') hr hrest
      exact ⟨D', pend', ear', ρf', Lp', a1, a2, a3, a4.trans hc, by rw [a5]; simp [It.isJ]; omega, a6⟩
  | .op k :: πa, D, pend, ear, ρf, Lp, h, ho, hr, hob => by
    have ho' : okOrderF lou b (.op k :: (πa ++ x0 :: πb)) = true := ho
    have hob' : ObF w0 A ro P l n ds lou K (.op k :: (πa ++ x0 :: πb)) D Lq ρf Lp := hob
    have h1 := ho'
    simp only [okOrderF, Bool.and_eq_true, List.all_eq_true] at h1
    have hq : lou.contains k = false := by
      cases hc : lou.contains k with
      | false => rfl
      | true =>
        have h1 := h1.1.1.1
        rw [hc] at h1
        simp only [Bool.not_true, Bool.false_or, List.all_eq_true] at h1
        have h2 := h1 x0 (by simp)
        rw [hx0] at h2
        simp only [Bool.false_or] at h2
        obtain ⟨h3, h4, _⟩ := h.inπ (.op k) (by simp) rfl
        have : listed.getD k false = true := hr k h2 h3
        simp only [It.ix] at h4
        rw [this] at h4; cases h4
    simp only [ObF] at hob'
    cases hk : l[k]? with
    | none => rw [hk] at hob'; exact hob'.elim
    | some o =>
      rw [hk] at hob'
      simp only [hq] at hob'
      obtain ⟨v, hst, hrest⟩ := hob'
      have hne : ∀ y ∈ πa ++ x0 :: πb, y.ix ≠ k := fun y hy => by
        have := h1.1.2 y hy
        simpa using this
      obtain ⟨hi, hc⟩ := InvF.push (x := .op k) (π := πa ++ x0 :: πb) (kd := .inl v) (ρf' := updo ρf o.dst v) rf h ho' rfl hk (fun t ht => updo_ne (by rw [← dstAt_of hk]; exact ht)) ⟨hst, fun d hd => by rw [hd]; simp [updo, upd_same], hne⟩ rfl
      obtain ⟨D', pend', ear', ρf', Lp', a1, a2, a3, a4, a5, a6⟩ := InvF.pops rf hx0 πa hi (okF_tail ho') hr hrest
      exact ⟨D', pend', ear', ρf', Lp', a1, a2, a3, a4.trans hc, by rw [a5]; simp [It.isJ]; omega, a6⟩

theorem nonJ_split {π : List It} {i : Nat} (h : ∃ x ∈ π, x.isJ = false ∧ x.ix = i) : ∃ πa x πb, π = πa ++ x :: πb ∧ x.isJ = false ∧ x.ix = i := by
  obtain ⟨x, hx, h1, h2⟩ := h
  obtain ⟨πa, πb, e⟩ := List.append_of_mem hx
  exact ⟨πa, x, πb, e, h1, h2⟩

/-- Nothing is left but what was made and is to be had. -/
theorem InvF.finish (rf : RegFacts l n b) {listed : Array Bool} : ∀ (π : List It) {D : List (Nat × Kd)} {ear : List Ee} {ρf : Nat → Value} {Lp : List SProp}, InvF w0 A ro P l n ds b Lq ρ0 listed π D [] ear ρf → okOrderF lou b π = true → (∀ x ∈ π, x.isJ = true) → (∀ j, j < l.length → listed.getD j false = true) →
    ObF w0 A ro P l n ds lou K π D Lq ρf Lp → ∃ ρ' Lp', K ρ' (Lq ++ Lp') ∧ ρ' = curF l ρ0 [] ear ρf ∧ (Lp ++ EL ear).Perm Lp'
  | [], D, ear, ρf, Lp, h, _, _, _, hob => by
    have he : ear = [] := by
      cases hc : ear with
      | nil => rfl
      | cons e r => have := (h.inE e (by rw [hc]; exact List.mem_cons_self)).2.2.1; cases this
    subst he
    refine ⟨ρf, Lp, hob, ?_, by simp [EL]⟩
    funext t
    simp [curF, earV]
  | x :: π, D, ear, ρf, Lp, h, ho, hj, hl, hob => by
    have hx := hj x List.mem_cons_self
    cases x with
    | op i => cases hx
    | dec i => cases hx
    | join f =>
      have hff : f < l.length := by
        have hob' := hob
        simp only [ObF] at hob'
        cases hc : l[f]? with
        | none => rw [hc] at hob'; exact hob'.elim
        | some o => exact (List.getElem?_eq_some_iff.1 hc).1
      obtain ⟨ear1, ρf1, Lp1, h1, hob1, hc1, hp1⟩ := InvF.absorb rf h ho (hl f hff) hob
      obtain ⟨ρ', Lp', a1, a2, a3⟩ := InvF.finish rf π h1 (okF_tail ho) (fun y hy => hj y (List.mem_cons_of_mem _ hy)) hl hob1
      exact ⟨ρ', Lp', a1, a2.trans hc1, hp1.trans a3⟩

theorem draw_soundF (rf : RegFacts l n b) (hbm : b = masks l []) {Q : Exit → Act → World → Prop} (hK : ∀ ρ L, K ρ L → G w0 A L (fun w => Q .normal (act n ρ ds) w)) :
    ∀ (k : Nat) (Lq : List SProp) (listed : Array Bool) (π : List It) (D : List (Nat × Kd)) (pend : List Pe) (ear : List Ee) (ρf : Nat → Value) (Lp : List SProp) (w : World), InvF w0 A ro P l n ds b Lq ρ0 listed π D pend ear ρf → okOrderF lou b π = true → ObF w0 A ro P l n ds lou K π D Lq ρf Lp →
      k = pend.length + (π.filter fun y => !y.isJ).length → Std w0 w → holds (star A (sl (Lq ++ (Lp ++ EL ear)))) w → wpAnyIn (WF ro) 0 P .any l.toArray Q k listed (act n (curF l ρ0 pend ear ρf) ds) w := by
  intro k
  induction k with
  | zero =>
    intro Lq listed π D pend ear ρf Lp w hI ho hob hk hw hh
    have hp : pend = [] := List.eq_nil_of_length_eq_zero (by omega)
    have hπ : (π.filter fun y => !y.isJ) = [] := List.eq_nil_of_length_eq_zero (by omega)
    rw [List.filter_eq_nil_iff] at hπ
    have hπ : ∀ x ∈ π, x.isJ = true := fun x hx => by simpa using hπ x hx
    subst hp
    have hl : ∀ j, j < l.length → listed.getD j false = true := fun j hj => by
      rcases hI.all j hj with h1 | ⟨p, hp, _⟩ | ⟨x, hx, h1, _⟩
      · exact h1
      · cases hp
      · rw [hπ x hx] at h1; cases h1
    refine ⟨?_, ?_⟩
    · unfold Region.ready
      rw [List.filter_eq_nil_iff]
      intro i hi
      have hil : i < l.length := by simpa using hi
      have h1 := hl i hil
      have h2 : listed.getD i true = true := by
        have his : i < listed.size := by rw [hI.sz]; exact hil
        simp [his] at h1 ⊢
        exact h1
      rw [h2]
      simp
    · obtain ⟨ρ', Lp', a1, a2, a3⟩ := InvF.finish rf π hI ho hπ hl hob
      rw [← a2]
      exact hK ρ' _ a1 w hw (hh.ent ((Ent.refl A).star (sl_perm (a3.append_left Lq))))
  | succ k ih =>
    intro Lq listed π D pend ear ρf Lp w hI ho hob hk hw hh
    have getT : ∀ i, i < l.length → listed.getD i true = listed.getD i false := fun i hi => by
      have his : i < listed.size := by rw [hI.sz]; exact hi
      simp [his]
    refine ⟨?_, ?_⟩
    · -- something is ready: the least that is not listed
      intro hnil
      exfalso
      obtain ⟨j, hj, hjl⟩ : ∃ j, j < l.length ∧ listed.getD j false = false := by
        cases hpd : pend with
        | cons p _ => exact ⟨p.1, (hI.inP p (by rw [hpd]; exact List.mem_cons_self)).1, (hI.inP p (by rw [hpd]; exact List.mem_cons_self)).2⟩
        | nil =>
          cases hf : (π.filter fun y => !y.isJ) with
          | cons x _ =>
            have hx : x ∈ π.filter fun y => !y.isJ := by rw [hf]; exact List.mem_cons_self
            rw [List.mem_filter] at hx
            have h1 := hI.inπ x hx.1 (by simpa using hx.2)
            exact ⟨x.ix, h1.1, h1.2.1⟩
          | nil => rw [hpd, hf] at hk; simp at hk
      have key : ∀ j, j < l.length → listed.getD j false = true := by
        intro j
        induction j using Nat.strongRecOn with
        | _ j ihj =>
          intro hj
          cases hc : listed.getD j false with
          | true => rfl
          | false =>
            have : j ∈ Region.ready .any l.toArray listed := by
              unfold Region.ready
              rw [List.mem_filter]
              refine ⟨by simpa using hj, ?_⟩
              rw [getT j hj, hc]
              simp only [Bool.not_false, Bool.true_and, List.getElem?_toArray, List.getElem?_eq_getElem hj, Option.map_some, Option.getD_some]
              rw [Array.all_eq_true_iff_forall_mem]
              intro e he
              cases hb : Region.binds .any e with
              | false => rfl
              | true =>
                have hlt := rf.back j l[j] (List.getElem?_eq_getElem hj) e he hb
                simpa using ihj e.on hlt (by omega)
            rw [hnil] at this; cases this
      rw [key j hj] at hjl; cases hjl
    · intro i hi
      unfold Region.ready at hi
      rw [List.mem_filter] at hi
      obtain ⟨hil, hi⟩ := hi
      have hil : i < l.length := by simpa using hil
      rw [getT i hil] at hi
      simp only [Bool.and_eq_true, List.getElem?_toArray, List.getElem?_eq_getElem hil, Option.map_some, Option.getD_some] at hi
      obtain ⟨hnl, hed⟩ := hi
      have hnl : listed.getD i false = false := by simpa using hnl
      rw [Array.all_eq_true_iff_forall_mem] at hed
      have hoi : l[i]? = some l[i] := List.getElem?_eq_getElem hil
      -- its ancestors are listed
      have hanc : ∀ j, isAnc b i j = true → j < l.length → listed.getD j false = true := by
        intro j ha hj
        obtain ⟨e, he, hb, hx⟩ := rf.step i l[i] hoi j hj ha
        have h1 := hed e he
        rw [hb] at h1
        simp only [Bool.not_true, Bool.false_or] at h1
        rcases hx with rfl | hx
        · exact h1
        · exact hI.closed e.on j h1 hx hj
      have hlsz : i < listed.size := by rw [hI.sz]; exact hil
      have hclosed' : ∀ x y, (listed.setIfInBounds i true).getD x false = true → isAnc b x y = true → y < l.length → (listed.setIfInBounds i true).getD y false = true := by
        intro x y hx ha hy
        rw [getD_set hlsz] at hx ⊢
        split
        · rfl
        · split at hx
          · rename_i e; subst e; exact hanc y ha hy
          · exact hI.closed x y hx ha hy
      have hopd := rf.op i l[i] hoi
      -- the case of an operation that has been walked and not run
      have pendCase : ∀ (π : List It) (D : List (Nat × Kd)) (pend : List Pe) (ear : List Ee) (ρf : Nat → Value) (Lp : List SProp), InvF w0 A ro P l n ds b Lq ρ0 listed π D pend ear ρf → okOrderF lou b π = true → ObF w0 A ro P l n ds lou K π D Lq ρf Lp → k + 1 = pend.length + (π.filter fun y => !y.isJ).length →
          holds (star A (sl (Lq ++ (Lp ++ EL ear)))) w → (∃ p ∈ pend, p.1 = i) → wpOpIn (WF ro) 0 P l.toArray Q i (wpAnyIn (WF ro) 0 P .any l.toArray Q k (listed.setIfInBounds i true)) (act n (curF l ρ0 pend ear ρf) ds) w := by
        rintro π D pend ear ρf Lp hI ho hob hk hh ⟨p, hp, hpi⟩
        obtain ⟨hst, hlk⟩ := hI.pq p hp l[i] (by rw [hpi]; exact hoi)
        have hearn : ∀ t ∈ (l[i]).looksAt l.toArray, earV l ear t = none := fun t ht => earV_none fun e he hed2 => by
          obtain ⟨h1, h2, h3, _⟩ := hI.inE e he
          rcases rf.look i l[i] hoi t ht e.1 h1 hed2 with h4 | h4 | h4
          · have := hI.pa p hp _ h3
            simp only [It.ix] at this
            rw [hpi, h4] at this; cases this
          · rw [← h4, hnl] at h2; cases h2
          · have := hI.closed e.1 i h2 h4 hil
            rw [hnl] at this; cases this
        have hcl : ∀ t ∈ (l[i]).looksAt l.toArray, curF l ρ0 pend ear ρf t = p.2.1 t := by
          intro t ht
          unfold curF
          rw [hearn t ht]
          simp only
          cases hany : pend.any (fun p => dstAt l p.1 == some t) with
          | true =>
            rw [cond_true]
            rw [List.any_eq_true] at hany
            obtain ⟨q, hq, hqd⟩ := hany
            have hqd : dstAt l q.1 = some t := by simpa using hqd
            refine ((hlk t ht).2 fun j hj ha e => ?_).symm
            have : j = q.1 := rf.dne j q.1 t hj (hI.inP q hq).1 e hqd
            rw [hpi] at ha
            rw [this] at ha
            have := hanc q.1 ha (hI.inP q hq).1
            rw [(hI.inP q hq).2] at this; cases this
          | false =>
            rw [cond_false]
            by_cases hex : ∃ j, j < l.length ∧ isAnc b p.1 j = true ∧ dstAt l j = some t
            · exact ((hlk t ht).1 hex).symm
            · have hno : ∀ j, j < l.length → isAnc b p.1 j = true → dstAt l j ≠ some t := fun j hj ha e => hex ⟨j, hj, ha, e⟩
              rw [(hlk t ht).2 hno]
              refine hI.base t fun j hj hjn e => ?_
              have hjp : ∀ q ∈ pend, q.1 ≠ j := fun q hq e2 => by
                have : pend.any (fun p => dstAt l p.1 == some t) = true := by
                  rw [List.any_eq_true]
                  exact ⟨q, hq, by rw [e2, e]; simp⟩
                rw [hany] at this; cases this
              rcases rf.look i l[i] hoi t ht j hj e with h1 | h1 | h1
              · exact hno j hj (by rw [hpi]; exact h1) e
              · exact hjp p hp (by rw [hpi, h1])
              · rcases hI.all j hj with h2 | ⟨q, hq, e2⟩ | ⟨y, hy, _, h2⟩
                · have := hI.closed j i h2 h1 hil
                  rw [hnl] at this; cases this
                · exact hjp q hq e2
                · exact hjn y hy h2
        obtain ⟨pa, pb, hpp⟩ := List.append_of_mem hp
        have hnP := hI.nP
        rw [hpp, List.map_append, List.map_cons] at hnP
        have hsplit := List.nodup_append.1 hnP
        have hne : ∀ q ∈ pa ++ pb, q.1 ≠ i := by
          intro q hq e
          rcases List.mem_append.1 hq with hq | hq
          · exact hsplit.2.2 q.1 (List.mem_map.2 ⟨q, hq, rfl⟩) p.1 List.mem_cons_self (by rw [e, hpi])
          · exact (List.nodup_cons.1 hsplit.2.1).1 (by rw [hpi, ← e]; exact List.mem_map.2 ⟨q, hq, rfl⟩)
        have hmem : ∀ q, q ∈ pa ++ pb → q ∈ pend := fun q hq => by
          rw [hpp]
          rcases List.mem_append.1 hq with hq | hq
          · exact List.mem_append_left _ hq
          · exact List.mem_append_right _ (List.mem_cons_of_mem _ hq)
        have hmem' : ∀ q, q ∈ pend → q = p ∨ q ∈ pa ++ pb := fun q hq => by
          rw [hpp] at hq
          rcases List.mem_append.1 hq with hq | hq
          · exact .inr (List.mem_append_left _ hq)
          · rcases List.mem_cons.1 hq with hq | hq
            · exact .inl hq
            · exact .inr (List.mem_append_right _ hq)
        have hanyd : ∀ t, (l[i]).dst ≠ some t → pend.any (fun p => dstAt l p.1 == some t) = (pa ++ pb).any (fun p => dstAt l p.1 == some t) := fun t e => by
          have hpd : (dstAt l p.1 == some t) = false := by rw [hpi, dstAt_of hoi]; simpa using e
          rw [hpp]
          simp [hpd]
        have hanyn : ∀ t, (l[i]).dst = some t → (pa ++ pb).any (fun p => dstAt l p.1 == some t) = false := fun t e => by
          rw [List.any_eq_false]
          intro q hq
          simp only [beq_iff_eq]
          intro e2
          exact hne q hq (rf.dne q.1 i t (hI.inP q (hmem q hq)).1 hil e2 (by rw [dstAt_of hoi]; exact e))
        have hearn' : ∀ t, (l[i]).dst = some t → ∀ e ∈ ear, dstAt l e.1 ≠ some t := fun t e e' he' e2 => by
          obtain ⟨h1, h2, _, _⟩ := hI.inE e' he'
          have := rf.dne e'.1 i t h1 hil e2 (by rw [dstAt_of hoi]; exact e)
          rw [this, hnl] at h2; cases h2
        have keepπ : ∀ y ∈ π, y.isJ = false → y.ix < l.length ∧ (listed.setIfInBounds i true).getD y.ix false = false ∧ ∀ q ∈ pa ++ pb, q.1 ≠ y.ix := by
          intro y hy hj
          obtain ⟨h1, h2, h3⟩ := hI.inπ y hy hj
          have hji : y.ix ≠ i := fun e => h3 p hp (by rw [hpi, e])
          exact ⟨h1, by rw [getD_set hlsz, if_neg hji]; exact h2, fun q hq => h3 q (hmem q hq)⟩
        have keepP : ∀ q ∈ pa ++ pb, q.1 < l.length ∧ (listed.setIfInBounds i true).getD q.1 false = false := by
          intro q hq
          obtain ⟨h1, h2⟩ := hI.inP q (hmem q hq)
          exact ⟨h1, by rw [getD_set hlsz, if_neg (hne q hq)]; exact h2⟩
        have keepL : ∀ j, listed.getD j false = true → (listed.setIfInBounds i true).getD j false = true := fun j hj => by
          rw [getD_set hlsz]; split <;> simp_all
        have keepAll : ∀ j, j < l.length → (listed.setIfInBounds i true).getD j false = true ∨ (∃ q ∈ pa ++ pb, q.1 = j) ∨ ∃ x ∈ π, x.isJ = false ∧ x.ix = j := by
          intro j hj
          by_cases e : j = i
          · left; rw [getD_set hlsz, if_pos e]
          · rcases hI.all j hj with h1 | ⟨q, hq, e2⟩ | h1
            · exact .inl (keepL j h1)
            · rcases hmem' q hq with rfl | hq'
              · exact absurd (e2.symm.trans hpi) e
              · exact .inr (.inl ⟨q, hq', e2⟩)
            · exact .inr (.inr h1)
        have keepN : ((pa ++ pb).map (·.1)).Nodup := by
          rw [List.map_append, List.nodup_append]
          exact ⟨hsplit.1, (List.nodup_cons.1 hsplit.2.1).2, fun x hx y hy => hsplit.2.2 x hx y (List.mem_cons_of_mem _ hy)⟩
        have hlen : k = (pa ++ pb).length + (π.filter fun y => !y.isJ).length := by rw [hpp] at hk; simp at hk ⊢; omega
        cases hkd : p.2.2 with
        | inl v0 =>
          rw [hkd] at hst
          have hrun := (hst.1 (Lp ++ EL ear)).run (ρ' := curF l ρ0 pend ear ρf) (by intro c e; rw [e] at hopd; cases hopd) (by intro cs bb e; rw [e] at hopd; cases hopd) (rf.dlt i l[i] hoi) hcl hw hh
            (next := wpAnyIn (WF ro) 0 P .any l.toArray Q k (listed.setIfInBounds i true)) (Q := Q) (fun v u M w' hr hvu hw' hh' => ?_)
          · unfold wpOpIn
            simp only [List.getElem?_toArray, hoi]
            split
            · rename_i hwant; rw [if_pos hwant] at hrun; exact hrun
            · rename_i hwant; rw [if_neg hwant] at hrun; exact ⟨fun _ _ => trivial, hrun⟩
          · obtain ⟨rfl, rfl⟩ := hr
            have hcur : updo (curF l ρ0 pend ear ρf) (l[i]).dst v = curF l ρ0 (pa ++ pb) ear ρf := by
              funext t
              by_cases e : (l[i]).dst = some t
              · rw [e]
                simp only [updo, upd_same, curF, hanyn t e, earV_none (hearn' t e), cond_false]
                rw [hvu t e]
                exact (hst.2 t e).symm
              · rw [updo_ne e]
                unfold curF
                rw [hanyd t e]
            rw [hcur]
            refine ih Lq (listed.setIfInBounds i true) π D (pa ++ pb) ear ρf Lp w' ?_ ho hob hlen hw' hh'
            refine ⟨by simpa using hI.sz, keepπ, keepP, ?_, keepAll, keepN, hI.nE, hclosed', hI.base, fun q hq => hI.pa q (hmem q hq), fun q hq => hI.pq q (hmem q hq), ?_⟩
            · intro e he
              obtain ⟨h1, h2, h3⟩ := hI.inE e he
              exact ⟨h1, keepL _ h2, h3⟩
            · intro q hq
              rcases hI.dl q hq with ⟨p', hp', h1, h2⟩ | h1
              · rcases hmem' p' hp' with rfl | hp''
                · rw [hkd] at h2; cases h2
                · exact .inl ⟨p', hp'', h1, h2⟩
              · exact .inr h1
        | inr R =>
          rw [hkd] at hst
          have hrun := (hst.1 (Lp ++ EL ear)).run (ρ' := curF l ρ0 pend ear ρf) (by intro c e; rw [e] at hopd; cases hopd) (by intro cs bb e; rw [e] at hopd; cases hopd) (rf.dlt i l[i] hoi) hcl hw hh
            (next := wpAnyIn (WF ro) 0 P .any l.toArray Q k (listed.setIfInBounds i true)) (Q := Q) (fun v u M w' hr hvu hw' hh' => ?_)
          · unfold wpOpIn
            simp only [List.getElem?_toArray, hoi]
            split
            · rename_i hwant; rw [if_pos hwant] at hrun; exact hrun
            · rename_i hwant; rw [if_neg hwant] at hrun; exact ⟨fun _ _ => trivial, hrun⟩
          · obtain ⟨M', hM, hR⟩ := hr
            have hcur : updo (curF l ρ0 pend ear ρf) (l[i]).dst v = curF l ρ0 (pa ++ pb) ((i, u, M', R) :: ear) ρf := by
              funext t
              by_cases e : (l[i]).dst = some t
              · rw [e]
                have : earV l ((i, u, M', R) :: ear) t = some u := earV_head (e := (i, u, M', R)) (by rw [dstAt_of hoi]; exact e)
                simp only [updo, upd_same, curF, this]
                exact hvu t e
              · rw [updo_ne e]
                unfold curF
                rw [hanyd t e, earV_cons (e := (i, u, M', R)) (by rw [dstAt_of hoi]; exact e)]
            rw [hcur]
            refine ih Lq (listed.setIfInBounds i true) π D (pa ++ pb) ((i, u, M', R) :: ear) ρf Lp w' ?_ ho hob hlen hw' ?_
            · refine ⟨by simpa using hI.sz, keepπ, keepP, ?_, keepAll, keepN, ?_, hclosed', hI.base, fun q hq => hI.pa q (hmem q hq), fun q hq => hI.pq q (hmem q hq), ?_⟩
              · intro e he
                rcases List.mem_cons.1 he with rfl | he
                · exact ⟨hil, by rw [getD_set hlsz, if_pos rfl], by have := hst.2; rwa [hpi] at this, hR⟩
                · obtain ⟨h1, h2, h3⟩ := hI.inE e he
                  exact ⟨h1, keepL _ h2, h3⟩
              · rw [List.map_cons, List.nodup_cons]
                refine ⟨fun hm => ?_, hI.nE⟩
                obtain ⟨e, he, h1⟩ := List.mem_map.1 hm
                have h2 := (hI.inE e he).2.1
                have h1 : e.1 = i := h1
                rw [h1, hnl] at h2; cases h2
              · intro q hq
                rcases hI.dl q hq with ⟨p', hp', h1, h2⟩ | ⟨e, he, h1⟩ | h1
                · rcases hmem' p' hp' with rfl | hp''
                  · rw [hkd] at h2
                    exact .inr (.inl ⟨_, List.mem_cons_self, by show i = q.1; rw [← h1, hpi], by show R = q.2; exact Sum.inr.inj h2⟩)
                  · exact .inl ⟨p', hp'', h1, h2⟩
                · exact .inr (.inl ⟨e, List.mem_cons_of_mem _ he, h1⟩)
                · exact .inr (.inr h1)
            · refine (hh'.ent ((Ent.refl A).star hM)).ent ((Ent.refl A).star (sl_perm ?_))
              show (Lq ++ ((Lp ++ EL ear) ++ M')).Perm (Lq ++ (Lp ++ (M' ++ EL ear)))
              refine List.Perm.append_left _ ?_
              rw [List.append_assoc]
              exact List.Perm.append_left _ List.perm_append_comm
      rcases hI.all i hil with h1 | h1 | h1
      · rw [hnl] at h1; cases h1
      · exact pendCase π D pend ear ρf Lp hI ho hob (by omega) hh h1
      · obtain ⟨πa, x0, πb, hπ, hx0, hxi⟩ := nonJ_split h1
        subst hπ
        obtain ⟨D', pend', ear', ρf', Lp', hI', ho', hob', hcur, hlen, hperm⟩ := InvF.pops rf hx0 πa hI ho (by rw [hxi]; exact hanc) hob
        rw [← hcur]
        replace hh := hh.ent ((Ent.refl A).star (sl_perm (hperm.append_left Lq)))
        have hk' : k + 1 = pend'.length + ((x0 :: πb).filter fun y => !y.isJ).length := by
          rw [hlen]
          simp only [List.filter_append, List.length_append] at hk
          omega
        cases x0 with
        | join j => cases hx0
        | dec j =>
          have hji : j = i := hxi
          subst hji
          have hob2 := hob'
          simp only [ObF, hoi] at hob2
          obtain ⟨R, hst, hrest⟩ := hob2
          have hj : It.join j ∈ πb := by
            have h1 := ho'
            simp only [okOrderF, Bool.and_eq_true, List.any_eq_true] at h1
            obtain ⟨y, hy, hy1, hy2⟩ := h1.1.1.1
            cases y with
            | op i => cases hy1
            | dec i => cases hy1
            | join i =>
              have : i = j := by simpa [It.ix] using hy2
              subst this; exact hy
          obtain ⟨hI2, hc2⟩ := InvF.push (x := .dec j) (kd := .inr R) (ρf' := ρf') rf hI' ho' rfl hoi (fun _ _ => rfl) ⟨hst, hj, rfl⟩ rfl
          rw [← hc2]
          exact pendCase πb _ _ _ _ Lp' hI2 (okF_tail ho') hrest (by simp [It.isJ] at hk' ⊢; omega) hh ⟨_, List.mem_cons_self, rfl⟩
        | op j =>
          have hji : j = i := hxi
          subst hji
          have hne : ∀ y ∈ πb, y.ix ≠ j := fun y hy => by
            have h1 := ho'
            simp only [okOrderF, Bool.and_eq_true, List.all_eq_true] at h1
            simpa using h1.1.2 y hy
          cases hl : lou.contains j with
          | false =>
            have hob2 := hob'
            simp only [ObF, hoi, hl] at hob2
            obtain ⟨v, hst, hrest⟩ := hob2
            obtain ⟨hI2, hc2⟩ := InvF.push (x := .op j) (kd := .inl v) (ρf' := updo ρf' (l[j]).dst v) rf hI' ho' rfl hoi (fun t ht => updo_ne (by rw [← dstAt_of hoi]; exact ht)) ⟨hst, fun d hd => by rw [hd]; simp [updo, upd_same], hne⟩ rfl
            rw [← hc2]
            exact pendCase πb _ _ _ _ Lp' hI2 (okF_tail ho') hrest (by simp [It.isJ] at hk' ⊢; omega) hh ⟨_, List.mem_cons_self, rfl⟩
          | true =>
            simp only [ObF, hoi, hl, if_true] at hob'
            have hancs := okF_anc ho' rfl
            obtain ⟨hπl, hπn, hπp⟩ := hI'.inπ (.op j) List.mem_cons_self rfl
            simp only [It.ix] at hπl hπn hπp hancs
            have hcl : ∀ t ∈ (l[j]).looksAt l.toArray, curF l ρ0 pend' ear' ρf' t = ρf' t := by
              intro t ht
              unfold curF
              have hen : earV l ear' t = none := earV_none fun e he hed2 => by
                obtain ⟨h1, h2, h3, _⟩ := hI'.inE e he
                rcases rf.look j l[j] hoi t ht e.1 h1 hed2 with h4 | h4 | h4
                · rcases List.mem_cons.1 h3 with h5 | h5
                  · cases h5
                  · have := hancs _ h5
                    simp only [It.ix] at this
                    rw [h4] at this; cases this
                · rw [← h4, hnl] at h2; cases h2
                · have := hI'.closed e.1 j h2 h4 hil
                  rw [hnl] at this; cases this
              have hno : pend'.any (fun p => dstAt l p.1 == some t) = false := by
               rw [List.any_eq_false]
               intro q hq
               simp only [beq_iff_eq]
               intro hqd
               have hql := (hI'.inP q hq).1
               rcases rf.look j l[j] hoi t ht q.1 hql hqd with h2 | h2 | h2
               · have := hanc q.1 h2 hql
                 rw [(hI'.inP q hq).2] at this; cases this
               · exact hπp q hq h2.symm
               · have := hI'.pa q hq (.op j) List.mem_cons_self
                 simp only [It.ix] at this
                 rw [this] at h2; cases h2
              rw [hen, hno]
              rfl
            have hh1 : holds (star (star A (sl (EL ear'))) (sl (Lq ++ Lp'))) w := by
              refine hh.ent ?_
              refine ((Ent.refl A).star ((sl_perm (show (Lq ++ (Lp' ++ EL ear')).Perm (EL ear' ++ (Lq ++ Lp')) from ?_)).trans (sl_append_to _ _))).trans (Ent.assoc' _ _ _)
              rw [← List.append_assoc]
              exact List.perm_append_comm
            have hrun := (hob' (sl (EL ear'))).run (ρ' := curF l ρ0 pend' ear' ρf') (by intro c e; rw [e] at hopd; cases hopd) (by intro cs bb e; rw [e] at hopd; cases hopd) (rf.dlt j l[j] hoi) hcl hw hh1
              (next := wpAnyIn (WF ro) 0 P .any l.toArray Q k (listed.setIfInBounds j true)) (Q := Q) (fun v u M w' hr hvu hw' hh' => ?_)
            · unfold wpOpIn
              simp only [List.getElem?_toArray, hoi]
              split
              · rename_i hwant; rw [if_pos hwant] at hrun; exact hrun
              · rename_i hwant; rw [if_neg hwant] at hrun; exact ⟨fun _ _ => trivial, hrun⟩
            · obtain ⟨Lq2, Lp2, he, hsy, hob2⟩ := hr
              have hp0 : Lq2 = Lq ∨ pend' = [] := hsy.imp id fun hs => by
                cases hpd : pend' with
                | nil => rfl
                | cons q rest =>
                  exfalso
                  have hq : q ∈ pend' := by rw [hpd]; exact List.mem_cons_self
                  obtain ⟨hql, hqn⟩ := hI'.inP q hq
                  rw [← hbm] at hs
                  simp only [okSyncF, List.all_eq_true, List.mem_range, Bool.or_eq_true, beq_iff_eq, List.any_eq_true, Bool.and_eq_true] at hs
                  rcases hs q.1 hql with ⟨y, hy, h1, h2⟩ | h2 | h2
                  · exact (hI'.inπ y (List.mem_cons_of_mem _ hy) (by simpa using h1)).2.2 q hq h2.symm
                  · exact hπp q hq h2
                  · rw [hanc q.1 h2 hql] at hqn; cases hqn
              have hh2 : holds (star A (sl (Lq2 ++ (Lp2 ++ EL ear')))) w' := by
                refine (hh'.ent ((Ent.refl _).star he)).ent ?_
                refine (Ent.assoc _ _ _).trans ((Ent.refl A).star ((sl_append_of _ _).trans (sl_perm (show (EL ear' ++ (Lq2 ++ Lp2)).Perm (Lq2 ++ (Lp2 ++ EL ear')) from ?_))))
                exact List.perm_append_comm.trans (by rw [List.append_assoc])
              have hnd : ∀ q ∈ pend', ∀ t, (l[j]).dst = some t → dstAt l q.1 ≠ some t := fun q hq t e e2 =>
                hπp q hq (rf.dne q.1 j t (hI'.inP q hq).1 hil e2 (by rw [dstAt_of hoi]; exact e))
              have hnde : ∀ t, (l[j]).dst = some t → ∀ e ∈ ear', dstAt l e.1 ≠ some t := fun t e e' he' e2 => by
                obtain ⟨h1, h2, _, _⟩ := hI'.inE e' he'
                have := rf.dne e'.1 j t h1 hil e2 (by rw [dstAt_of hoi]; exact e)
                rw [this, hnl] at h2; cases h2
              have hcur2 : updo (curF l ρ0 pend' ear' ρf') (l[j]).dst v = curF l ρ0 pend' ear' (updo ρf' (l[j]).dst u) := by
                funext t
                by_cases e : (l[j]).dst = some t
                · have h2 : pend'.any (fun p => dstAt l p.1 == some t) = false := by
                    rw [List.any_eq_false]
                    intro q hq
                    simp only [beq_iff_eq]
                    exact hnd q hq t e
                  rw [e]
                  simp only [updo, upd_same, curF, h2, earV_none (hnde t e), cond_false]
                  rw [hvu t e]
                · rw [updo_ne e]
                  unfold curF
                  rw [updo_ne e]
              rw [hcur2]
              refine ih Lq2 (listed.setIfInBounds j true) πb D' pend' ear' _ Lp2 w' ?_ (okF_tail ho') hob2 (by simp [It.isJ] at hk' ⊢; omega) hw' hh2
              refine ⟨by simpa using hI'.sz, ?_, ?_, ?_, ?_, hI'.nP, hI'.nE, hclosed', ?_, ?_, ?_, ?_⟩
              · intro y hy hyj
                obtain ⟨h2, h3, h4⟩ := hI'.inπ y (List.mem_cons_of_mem _ hy) hyj
                exact ⟨h2, by rw [getD_set hlsz, if_neg (hne y hy)]; exact h3, h4⟩
              · intro q hq
                obtain ⟨h2, h3⟩ := hI'.inP q hq
                exact ⟨h2, by rw [getD_set hlsz, if_neg (hπp q hq)]; exact h3⟩
              · intro e he2
                obtain ⟨h1, h2, h3, h4⟩ := hI'.inE e he2
                refine ⟨h1, by rw [getD_set hlsz]; split <;> simp_all, ?_, h4⟩
                rcases List.mem_cons.1 h3 with h5 | h5
                · cases h5
                · exact h5
              · intro i' hi'
                rw [getD_set hlsz]
                by_cases e : i' = j
                · left; rw [if_pos e]
                · rw [if_neg e]
                  rcases hI'.all i' hi' with h2 | h2 | ⟨y, hy, h2, h3⟩
                  · exact .inl h2
                  · exact .inr (.inl h2)
                  · rcases List.mem_cons.1 hy with rfl | hy
                    · exact absurd h3.symm e
                    · exact .inr (.inr ⟨y, hy, h2, h3⟩)
              · intro t ht
                rw [updo_ne (by rw [← dstAt_of hoi]; exact ht j hil hne)]
                exact hI'.base t fun i' hi' hjn => ht i' hi' fun y hy => hjn y (List.mem_cons_of_mem _ hy)
              · intro q hq y hy
                exact hI'.pa q hq y (List.mem_cons_of_mem _ hy)
              · intro q hq o' ho2
                rcases hp0 with hp0 | hp0
                case inr => rw [hp0] at hq; cases hq
                subst hp0
                obtain ⟨h2, h4⟩ := hI'.pq q hq o' ho2
                refine ⟨?_, fun t ht => ⟨?_, (h4 t ht).2⟩⟩
                · cases hkq : q.2.2 with
                  | inl v1 =>
                    rw [hkq] at h2
                    refine ⟨h2.1, fun d hd => ?_⟩
                    rw [updo_ne]
                    · exact h2.2 d hd
                    · intro e; exact hnd q hq d e (by rw [dstAt_of ho2]; exact hd)
                  | inr R1 =>
                    rw [hkq] at h2
                    refine ⟨h2.1, ?_⟩
                    rcases List.mem_cons.1 h2.2 with h5 | h5
                    · cases h5
                    · exact h5
                · rintro ⟨i', hi', ha, hd⟩
                  rw [(h4 t ht).1 ⟨i', hi', ha, hd⟩]
                  refine (updo_ne fun e => ?_).symm
                  have : i' = j := rf.dne i' j t hi' hil hd (by rw [dstAt_of hoi]; exact e)
                  subst this
                  have := hI'.pa q hq (.op i') List.mem_cons_self
                  simp only [It.ix] at this
                  rw [this] at ha; cases ha
              · intro q hq
                rcases hI'.dl q hq with h2 | h2 | h2
                · exact .inl h2
                · exact .inr (.inl h2)
                · exact .inr (.inr fun y hy => h2 y (List.mem_cons_of_mem _ hy))

/-- **A region that draws its order, with operations that float.** -/
theorem g_drawF {L : List SProp} {Q : Exit → Act → World → Prop} {ρ : Nat → Value} {id : Nat} {l : List Oper} (lou : List Nat) (π : List It) (Lq : List SProp) {Lp : List SProp} (hm : P.follows .mixedOrders = true)
    (hok : (okRegion l n (masks l []) && okOrderF lou (masks l []) π && okPermF l.length π) = true) [tk : Take L Lq Lp]
    (h : ObF w0 A ro P l n ds lou (fun ρ' L' => G w0 A L' (fun w => Q .normal (act n ρ' ds) w)) π [] Lq ρ Lp) :
    G w0 A L (fun w => (Code.region id l.toArray true).wpIn (WF ro) 0 P Q (act n ρ ds) w) := by
  simp only [Bool.and_eq_true] at hok
  obtain ⟨⟨h1, h2⟩, h3⟩ := hok
  refine G.perm tk.perm fun w hw hh => ?_
  refine wpIn_region_any hm ?_
  simp only [okPermF, Bool.and_eq_true, beq_iff_eq, List.all_eq_true, List.mem_range, List.any_eq_true] at h3
  obtain ⟨⟨hlen, hall⟩, hlt⟩ := h3
  have hrep : ∀ j, (Array.replicate l.toArray.size false).getD j false = false := fun j => by
    simp only [Array.getD_eq_getD_getElem?, Array.getElem?_replicate]
    split <;> rfl
  have := draw_soundF (ro := ro) (P := P) (ρ0 := ρ) (RegFacts.of h1) rfl (Q := Q) (fun _ _ x => x) l.toArray.size Lq (Array.replicate l.toArray.size false) π [] [] [] ρ Lp w.drew ?_ h2 h (by simp [hlen]) (hw.trans (.drew w)) ((hh.le (Le.refl _)).ent (by simp only [EL, List.flatMap_nil, List.append_nil]; exact Ent.refl _))
  · have e : curF l ρ [] [] ρ = ρ := by funext t; simp [curF, earV]
    rw [e] at this
    exact this
  · refine ⟨by simp, ?_, by simp, by simp, ?_, by simp, by simp, ?_, ?_, by simp, by simp, by simp⟩
    · intro x hx _
      have := hlt x hx
      rw [Nat.blt_eq] at this
      exact ⟨this, hrep _, by simp⟩
    · intro j hj
      obtain ⟨x, hx, h4, h5⟩ := hall j hj
      exact .inr (.inr ⟨x, hx, by simpa using h4, h5⟩)
    · intro i j hi
      rw [hrep i] at hi; cases hi
    · intro t _
      rfl

variable {Lq : List SProp} {i : Nat} {π : List It} {D : List (Nat × Kd)} {ρ : Nat → Value} {Lp : List SProp} {o : Oper}
theorem obf_nil (h : K ρ (Lq ++ Lp)) : ObF w0 A ro P l n ds lou K [] D Lq ρ Lp := h
theorem obf_q (hi : l[i]? = some o) (hl : lou.contains i = false) (h : ∃ v, (∀ X, OStep w0 A ro P l.toArray n ds ρ (Lq ++ X) o (fun u M => u = v ∧ M = Lq ++ X)) ∧ ObF w0 A ro P l n ds lou K π D Lq (updo ρ o.dst v) Lp) :
    ObF w0 A ro P l n ds lou K (.op i :: π) D Lq ρ Lp := by
  simp only [ObF, hi, hl]
  exact h
theorem obf_l (hi : l[i]? = some o) (hl : lou.contains i = true) (h : ∀ X, OStep w0 (star A X) ro P l.toArray n ds ρ (Lq ++ Lp) o (fun v M => ∃ Lp', Ent (sl M) (sl (Lq ++ Lp')) ∧ ObF w0 A ro P l n ds lou K π D Lq (updo ρ o.dst v) Lp')) :
    ObF w0 A ro P l n ds lou K (.op i :: π) D Lq ρ Lp := by
  simp only [ObF, hi, hl, if_true]
  exact fun X Q hn => h X Q fun v M ⟨Lp', h1, h2⟩ => hn v M ⟨Lq, Lp', h1, .inl rfl, h2⟩
theorem obf_s (Lq' : List SProp) (hi : l[i]? = some o) (hl : lou.contains i = true) (hs : okSyncF (masks l []) l.length i π = true)
    (h : ∀ X, OStep w0 (star A X) ro P l.toArray n ds ρ (Lq ++ Lp) o (fun v M => ∃ Lp', Ent (sl M) (sl (Lq' ++ Lp')) ∧ ObF w0 A ro P l n ds lou K π D Lq' (updo ρ o.dst v) Lp')) :
    ObF w0 A ro P l n ds lou K (.op i :: π) D Lq ρ Lp := by
  simp only [ObF, hi, hl, if_true]
  exact fun X Q hn => h X Q fun v M ⟨Lp', h1, h2⟩ => hn v M ⟨Lq', Lp', h1, .inr hs, h2⟩
/-- A floating operation is told: what is said of what it makes. -/
theorem obf_d (R : Kd) (hi : l[i]? = some o) (h : ∀ X, OStep w0 A ro P l.toArray n ds ρ (Lq ++ X) o (fun v M => ∃ M', Ent (sl M) (sl (Lq ++ (X ++ M'))) ∧ R v M')) (k : ObF w0 A ro P l n ds lou K π ((i, R) :: D) Lq ρ Lp) :
    ObF w0 A ro P l n ds lou K (.dec i :: π) D Lq ρ Lp := by
  simp only [ObF, hi]
  exact ⟨R, h, k⟩
theorem obf_j {R : Kd} (hi : l[i]? = some o) (hR : (i, R) ∈ D) (h : ∀ v M, R v M → ObF w0 A ro P l n ds lou K π D Lq (updo ρ o.dst v) (M ++ Lp)) : ObF w0 A ro P l n ds lou K (.join i :: π) D Lq ρ Lp := by
  simp only [ObF, hi]
  exact ⟨R, hR, h⟩
end
end Go.Sl
/- Literals that stay, and other short cuts. Plain library, no program in sight. -/
namespace Go.Sl
open Go Go.Proofs Go.RowKit

section
variable {w0 : World} {A : SProp} {L : List SProp} {ro : Option Nat} {P : Program} {Q : Exit → Act → World → Prop} {all : Array Oper} {os : List Oper} {n : Nat} {ρ : Nat → Value} {ds : List Nat}
variable {d : Option Tmp} {ty : TypeId} {pos : String} {af : Array Edge} {x y : Operand}
variable {α : Type} {enc : α → List Value} {sz : Nat} {xs : List α} {S : Option Addr}
/-- A truth value moved: both ways are walked. -/
theorem o_moveB {x : Operand} {b : Bool} (hx : ev n ρ x = .bool b) (h1 : b = true → G w0 A L (fun w => runL ro P all Q os (act n (updo ρ d (.bool true)) ds) w)) (h0 : b = false → G w0 A L (fun w => runL ro P all Q os (act n (updo ρ d (.bool false)) ds) w)) :
    G w0 A L (fun w => runL ro P all Q ({ dst := d, op := .move x, type := ty, pos := pos, after := af, guard := none } :: os) (act n ρ ds) w) :=
  o_move (by
    rw [hx]
    cases b with
    | true => exact h1 rfl
    | false => exact h0 rfl)
theorem o_slen {t : TypeId} {tys : Array TypeId} {s : ByteArray} (hx : ev n ρ x = .string s) (ht : tys = #[t]) (hu : P.underlying t = some .string)
    (h : G w0 A L (fun w => runL ro P all Q os (act n (updo ρ d (.int .i64 (s.size : Int))) ds) w)) :
    G w0 A L (fun w => runL ro P all Q ({ dst := d, op := .call { callee := .builtin .len, args := #[x], argTypes := tys }, type := ty, pos := pos, after := af, guard := none } :: os) (act n ρ ds) w) :=
  o_val rfl (by intro c e; cases e) (fun w _ _ => by
    subst ht
    simp only [execOp, resolve, List.map_toArray, List.map_cons, List.map_nil, hx]
    simp [invoke, builtin, Builtin.len_, run_underlying hu, goInt]) h
/-- A text's byte. -/
def byteN (s : ByteArray) (i : Nat) : Nat := if h : i < s.size then (s[i]'h).toNat else 0
theorem o_sindex {t : TypeId} {s : ByteArray} {kd : IntKind} {m : Int} {i : Nat} (hx : ev n ρ x = .string s) (hy : ev n ρ y = .int kd m) (hm : m = (i : Int)) (hi : i < s.size) (hu : P.underlying t = some .string)
    (h : G w0 A L (fun w => runL ro P all Q os (act n (updo ρ d (.int .u8 (byteN s i : Int))) ds) w)) :
    G w0 A L (fun w => runL ro P all Q ({ dst := d, op := .index t x y, type := ty, pos := pos, after := af, guard := none } :: os) (act n ρ ds) w) :=
  o_val rfl (by intro c e; cases e) (fun w _ _ => by
    subst hm
    simp only [execOp]
    refine run_v ?_
    rw [hx, hy, run_index_string w t s kd _ hu, dif_pos ⟨by omega, by omega⟩]
    simp [byteN, hi]) h
/-- A literal that stays as it is. -/
theorem o_litP {t e : TypeId} {len : Nat} {parts : Array (Nat × Operand)} (enc : α → List Value) (xs : List α) (cs : Array Value) (hr : ∀ w, (Instr.buildSlice t len (parts.map fun (i, x) => (i, ev n ρ x))).run P w = .ok (.slice (some ⟨w.heap.size, 0, none⟩) len len) (w.alloc (.cells cs e)))
    [en : EncLen enc sz] (hcs : cs.toList = xs.flatMap enc) (hm : xs.length ≤ maxLen)
    (h : ∀ b, G w0 A (psl enc sz (some ⟨b, 0, none⟩) xs :: L) (fun w => runL ro P all Q os (act n (updo ρ d (.slice (some ⟨b, 0, none⟩) len len)) ds) w)) :
    G w0 A L (fun w => runL ro P all Q ({ dst := d, op := .buildSlice t len parts, type := ty, pos := pos, after := af, guard := none } :: os) (act n ρ ds) w) :=
  o_slice_lit (e := e) cs hr fun b => G.lit_slice (enc := enc) (sz := sz) xs hcs hm (G.freeze_slice (h b))
/-- A floating literal: what is said of it. -/
theorem fl_lit {t e : TypeId} {len : Nat} {parts : Array (Nat × Operand)} (enc : α → List Value) (xs : List α) (cs : Array Value) (hr : ∀ w, (Instr.buildSlice t len (parts.map fun (i, x) => (i, ev n ρ x))).run P w = .ok (.slice (some ⟨w.heap.size, 0, none⟩) len len) (w.alloc (.cells cs e)))
    [en : EncLen enc sz] (hcs : cs.toList = xs.flatMap enc) (hm : xs.length ≤ maxLen) {Lq : List SProp} (X : List SProp) :
    OStep w0 A ro P all n ds ρ (Lq ++ X) { dst := d, op := .buildSlice t len parts, type := ty, pos := pos, after := af, guard := none }
      (fun v M => ∃ M', Ent (sl M) (sl (Lq ++ (X ++ M'))) ∧ ∃ b, v = .slice (some ⟨b, 0, none⟩) len len ∧ M' = [psl enc sz (some ⟨b, 0, none⟩) xs]) := fun Q h =>
  o_litP enc xs cs hr hcs hm fun b => g_end (h _ _ ⟨[psl enc sz (some ⟨b, 0, none⟩) xs], sl_perm (by
    rw [← List.append_assoc]
    exact List.perm_append_comm (l₁ := [psl enc sz (some ⟨b, 0, none⟩) xs]) (l₂ := Lq ++ X)), b, rfl, rfl⟩)
/-- An owned row, given up, with what is known of its room. -/
theorem G.frzc {e : TypeId} [en : EncLen enc sz] {c : Nat} {Φ : World → Prop} (h : xs.length ≤ c → G w0 A (psl enc sz S xs :: L) Φ) : G w0 A ([osl e enc sz S c xs] ++ L) Φ :=
  fun w hw hh => G.freeze_slice (e := e) (c := c) (h (osl_room (e := e) (hh.ent (Ent.swap _ _ _)))) w hw hh
end
/-- From less a state. -/
theorem Yields.pre {P : Program} {l : Nat} {vs : List Value} {M0 M M' Mx : List SProp} (h : Yields P l vs M M' Mx) (e : Ent (sl M0) (sl M)) : Yields P l vs M0 M' Mx := fun w F hh => h w F (hh.ent ((Ent.refl F).star e))
/-- Told otherwise. -/
theorem Iter.map {P : Program} {gf : FuncId} {lb : List Value} {α β : Type} {enc : α → List Value} {enc2 : β → List Value} (g : α → β) (he : ∀ x, enc x = enc2 (g x)) {xs : List α} {J0 : List SProp} (h : Iter P gf lb enc xs J0) : Iter P gf lb enc2 (xs.map g) J0 := fun l J Jx hJ hy => by
  refine (h l (fun pre => J (pre.map g)) (fun pre => Jx (pre.map g)) hJ fun pre x hp => ?_).mono fun v L' hR => ?_
  · have := hy (pre.map g) (g x) (by obtain ⟨t, ht⟩ := hp; exact ⟨t.map g, by rw [← ht]; simp⟩)
    rw [he]
    simpa using this
  · rcases hR with h1 | ⟨pre, ⟨t, ht⟩, h1⟩
    · exact .inl h1
    · exact .inr ⟨pre.map g, ⟨t.map g, by rw [← ht]; simp⟩, h1⟩
end Go.Sl
/- Words and symbols: which are right. -/
namespace Go.Proofs.Ytfakoemkapankaa
open Go Go.Sl
attribute [local irreducible] Code.wpIn roundPost bodyPostM runL Ret Meets Begin

def smallN (c : Nat) : Bool := decide (97 ≤ c) && decide (c ≤ 122)
def digitN (c : Nat) : Bool := decide (48 ≤ c) && decide (c ≤ 57)
def greatN (c : Nat) : Bool := decide (65 ≤ c) && decide (c ≤ 90)
def partN (c : Nat) : Bool := smallN c || digitN c || decide (c = 45) || decide (c = 95)
def wordS (s : ByteArray) : Bool := decide (1 ≤ s.size) && decide (s.size ≤ 32) && smallN (byteN s 0) && (List.range s.size).all fun i => partN (byteN s i)
def validS (s : SymD) : Bool :=
  if s.kind = 1 then decide (s.text.size = 1) && greatN (byteN s.text 0) && decide (1 ≤ s.n) && decide (s.n ≤ 1048576)
  else if s.kind = 2 then decide (s.text = ByteArray.empty) && decide (-2147483647 ≤ s.n) && decide (s.n ≤ 2147483647)
  else if s.kind = 3 then decide (s.n = 0) && wordS s.text else false
def validE (e : ElemD) : Bool := validS e.id && decide (e.id.kind = 1) && (validS e.attr && decide (e.attr.kind ≠ 1)) && validS e.value

theorem great_spec (c : Nat) : Ctr Try.prog 176 [.int .u8 (c : Int)] [] (fun v M => v = .bool (greatN c) ∧ M = []) := by
  refine spec_of Try.func176 rfl Try.ntmps176 rfl fun w0 F => ?_
  -- ponder/sym.great
  repeat (first | refine g_endt ?_ | refine g_end ?_ | refine g_then ?_ | refine g_in_normal ?_ | refine g_then_ret ?_ | refine g_in_ret ?_ | refine g_then_exit ?_ | refine g_in_exit rfl ?_ | refine g_in_exit_ne (by decide) ?_ | refine g_seq ?_ | refine g_region ?_ | refine g_block ?_ | refine g_ret ?_ | refine g_return_n ?_ | refine g_exit ?_ | refine g_skip ?_)
  refine o_assign ?_
  first | refine g_endt ?_ | refine g_end ?_
  repeat (first | refine g_endt ?_ | refine g_end ?_ | refine g_then ?_ | refine g_in_normal ?_ | refine g_then_ret ?_ | refine g_in_ret ?_ | refine g_then_exit ?_ | refine g_in_exit rfl ?_ | refine g_in_exit_ne (by decide) ?_ | refine g_seq ?_ | refine g_region ?_ | refine g_block ?_ | refine g_ret ?_ | refine g_return_n ?_ | refine g_exit ?_ | refine g_skip ?_)
  refine o_move ?_
  refine o_geq rfl rfl ?_
  refine o_moveB rfl (fun h2 => ?_) (fun h2 => ?_)
  · refine o_want rfl rfl rfl rfl rfl <| o_move ?_
    refine o_want rfl rfl rfl rfl rfl <| o_leq rfl rfl ?_
    refine o_pick_t rfl rfl ?_
    refine o_assign ?_
    first | refine g_endt ?_ | refine g_end ?_
    repeat (first | refine g_endt ?_ | refine g_end ?_ | refine g_then ?_ | refine g_in_normal ?_ | refine g_then_ret ?_ | refine g_in_ret ?_ | refine g_then_exit ?_ | refine g_in_exit rfl ?_ | refine g_in_exit_ne (by decide) ?_ | refine g_seq ?_ | refine g_region ?_ | refine g_block ?_ | refine g_ret ?_ | refine g_return_n ?_ | refine g_exit ?_ | refine g_skip ?_)
    refine ret1 rfl (resT rfl) ⟨congrArg Value.bool ?_, rfl⟩
    (rw [Bool.eq_iff_iff]; simp_all [greatN] <;> omega)
  · refine o_unwanted rfl rfl rfl rfl rfl ?_
    refine o_unwanted rfl rfl rfl rfl rfl ?_
    refine o_pick_f rfl rfl ?_
    refine o_assign ?_
    first | refine g_endt ?_ | refine g_end ?_
    repeat (first | refine g_endt ?_ | refine g_end ?_ | refine g_then ?_ | refine g_in_normal ?_ | refine g_then_ret ?_ | refine g_in_ret ?_ | refine g_then_exit ?_ | refine g_in_exit rfl ?_ | refine g_in_exit_ne (by decide) ?_ | refine g_seq ?_ | refine g_region ?_ | refine g_block ?_ | refine g_ret ?_ | refine g_return_n ?_ | refine g_exit ?_ | refine g_skip ?_)
    refine ret1 rfl (resT rfl) ⟨congrArg Value.bool ?_, rfl⟩
    (rw [Bool.eq_iff_iff]; simp_all [greatN] <;> omega)
theorem small_spec (c : Nat) : Ctr Try.prog 219 [.int .u8 (c : Int)] [] (fun v M => v = .bool (smallN c) ∧ M = []) := by
  refine spec_of Try.func219 rfl Try.ntmps219 rfl fun w0 F => ?_
  -- ponder/sym.small
  repeat (first | refine g_endt ?_ | refine g_end ?_ | refine g_then ?_ | refine g_in_normal ?_ | refine g_then_ret ?_ | refine g_in_ret ?_ | refine g_then_exit ?_ | refine g_in_exit rfl ?_ | refine g_in_exit_ne (by decide) ?_ | refine g_seq ?_ | refine g_region ?_ | refine g_block ?_ | refine g_ret ?_ | refine g_return_n ?_ | refine g_exit ?_ | refine g_skip ?_)
  refine o_assign ?_
  first | refine g_endt ?_ | refine g_end ?_
  repeat (first | refine g_endt ?_ | refine g_end ?_ | refine g_then ?_ | refine g_in_normal ?_ | refine g_then_ret ?_ | refine g_in_ret ?_ | refine g_then_exit ?_ | refine g_in_exit rfl ?_ | refine g_in_exit_ne (by decide) ?_ | refine g_seq ?_ | refine g_region ?_ | refine g_block ?_ | refine g_ret ?_ | refine g_return_n ?_ | refine g_exit ?_ | refine g_skip ?_)
  refine o_move ?_
  refine o_geq rfl rfl ?_
  refine o_moveB rfl (fun h2 => ?_) (fun h2 => ?_)
  · refine o_want rfl rfl rfl rfl rfl <| o_move ?_
    refine o_want rfl rfl rfl rfl rfl <| o_leq rfl rfl ?_
    refine o_pick_t rfl rfl ?_
    refine o_assign ?_
    first | refine g_endt ?_ | refine g_end ?_
    repeat (first | refine g_endt ?_ | refine g_end ?_ | refine g_then ?_ | refine g_in_normal ?_ | refine g_then_ret ?_ | refine g_in_ret ?_ | refine g_then_exit ?_ | refine g_in_exit rfl ?_ | refine g_in_exit_ne (by decide) ?_ | refine g_seq ?_ | refine g_region ?_ | refine g_block ?_ | refine g_ret ?_ | refine g_return_n ?_ | refine g_exit ?_ | refine g_skip ?_)
    refine ret1 rfl (resT rfl) ⟨congrArg Value.bool ?_, rfl⟩
    (rw [Bool.eq_iff_iff]; simp_all [smallN] <;> omega)
  · refine o_unwanted rfl rfl rfl rfl rfl ?_
    refine o_unwanted rfl rfl rfl rfl rfl ?_
    refine o_pick_f rfl rfl ?_
    refine o_assign ?_
    first | refine g_endt ?_ | refine g_end ?_
    repeat (first | refine g_endt ?_ | refine g_end ?_ | refine g_then ?_ | refine g_in_normal ?_ | refine g_then_ret ?_ | refine g_in_ret ?_ | refine g_then_exit ?_ | refine g_in_exit rfl ?_ | refine g_in_exit_ne (by decide) ?_ | refine g_seq ?_ | refine g_region ?_ | refine g_block ?_ | refine g_ret ?_ | refine g_return_n ?_ | refine g_exit ?_ | refine g_skip ?_)
    refine ret1 rfl (resT rfl) ⟨congrArg Value.bool ?_, rfl⟩
    (rw [Bool.eq_iff_iff]; simp_all [smallN] <;> omega)
theorem digit_spec (c : Nat) : Ctr Try.prog 220 [.int .u8 (c : Int)] [] (fun v M => v = .bool (digitN c) ∧ M = []) := by
  refine spec_of Try.func220 rfl Try.ntmps220 rfl fun w0 F => ?_
  -- ponder/sym.digit
  repeat (first | refine g_endt ?_ | refine g_end ?_ | refine g_then ?_ | refine g_in_normal ?_ | refine g_then_ret ?_ | refine g_in_ret ?_ | refine g_then_exit ?_ | refine g_in_exit rfl ?_ | refine g_in_exit_ne (by decide) ?_ | refine g_seq ?_ | refine g_region ?_ | refine g_block ?_ | refine g_ret ?_ | refine g_return_n ?_ | refine g_exit ?_ | refine g_skip ?_)
  refine o_assign ?_
  first | refine g_endt ?_ | refine g_end ?_
  repeat (first | refine g_endt ?_ | refine g_end ?_ | refine g_then ?_ | refine g_in_normal ?_ | refine g_then_ret ?_ | refine g_in_ret ?_ | refine g_then_exit ?_ | refine g_in_exit rfl ?_ | refine g_in_exit_ne (by decide) ?_ | refine g_seq ?_ | refine g_region ?_ | refine g_block ?_ | refine g_ret ?_ | refine g_return_n ?_ | refine g_exit ?_ | refine g_skip ?_)
  refine o_move ?_
  refine o_geq rfl rfl ?_
  refine o_moveB rfl (fun h2 => ?_) (fun h2 => ?_)
  · refine o_want rfl rfl rfl rfl rfl <| o_move ?_
    refine o_want rfl rfl rfl rfl rfl <| o_leq rfl rfl ?_
    refine o_pick_t rfl rfl ?_
    refine o_assign ?_
    first | refine g_endt ?_ | refine g_end ?_
    repeat (first | refine g_endt ?_ | refine g_end ?_ | refine g_then ?_ | refine g_in_normal ?_ | refine g_then_ret ?_ | refine g_in_ret ?_ | refine g_then_exit ?_ | refine g_in_exit rfl ?_ | refine g_in_exit_ne (by decide) ?_ | refine g_seq ?_ | refine g_region ?_ | refine g_block ?_ | refine g_ret ?_ | refine g_return_n ?_ | refine g_exit ?_ | refine g_skip ?_)
    refine ret1 rfl (resT rfl) ⟨congrArg Value.bool ?_, rfl⟩
    (rw [Bool.eq_iff_iff]; simp_all [digitN] <;> omega)
  · refine o_unwanted rfl rfl rfl rfl rfl ?_
    refine o_unwanted rfl rfl rfl rfl rfl ?_
    refine o_pick_f rfl rfl ?_
    refine o_assign ?_
    first | refine g_endt ?_ | refine g_end ?_
    repeat (first | refine g_endt ?_ | refine g_end ?_ | refine g_then ?_ | refine g_in_normal ?_ | refine g_then_ret ?_ | refine g_in_ret ?_ | refine g_then_exit ?_ | refine g_in_exit rfl ?_ | refine g_in_exit_ne (by decide) ?_ | refine g_seq ?_ | refine g_region ?_ | refine g_block ?_ | refine g_ret ?_ | refine g_return_n ?_ | refine g_exit ?_ | refine g_skip ?_)
    refine ret1 rfl (resT rfl) ⟨congrArg Value.bool ?_, rfl⟩
    (rw [Bool.eq_iff_iff]; simp_all [digitN] <;> omega)
theorem Part_spec (c : Nat) : Ctr Try.prog 165 [.int .u8 (c : Int)] [] (fun v M => v = .bool (partN c) ∧ M = []) := by
  refine spec_of Try.func165 rfl Try.ntmps165 rfl fun w0 F => ?_
  -- ponder/ponderref04.Part
  repeat (first | refine g_endt ?_ | refine g_end ?_ | refine g_then ?_ | refine g_in_normal ?_ | refine g_then_ret ?_ | refine g_in_ret ?_ | refine g_then_exit ?_ | refine g_in_exit rfl ?_ | refine g_in_exit_ne (by decide) ?_ | refine g_seq ?_ | refine g_region ?_ | refine g_block ?_ | refine g_ret ?_ | refine g_return_n ?_ | refine g_exit ?_ | refine g_skip ?_)
  refine o_assign ?_
  first | refine g_endt ?_ | refine g_end ?_
  repeat (first | refine g_endt ?_ | refine g_end ?_ | refine g_then ?_ | refine g_in_normal ?_ | refine g_then_ret ?_ | refine g_in_ret ?_ | refine g_then_exit ?_ | refine g_in_exit rfl ?_ | refine g_in_exit_ne (by decide) ?_ | refine g_seq ?_ | refine g_region ?_ | refine g_block ?_ | refine g_ret ?_ | refine g_return_n ?_ | refine g_exit ?_ | refine g_skip ?_)
  refine o_move ?_
  refine o_geq rfl rfl ?_
  refine o_moveB rfl (fun h2 => ?_) (fun h2 => ?_)
  · refine o_want rfl rfl rfl rfl rfl <| o_move ?_
    refine o_want rfl rfl rfl rfl rfl <| o_leq rfl rfl ?_
    refine o_pick_t rfl rfl ?_
    refine o_moveB rfl (fun h6 => ?_) (fun h6 => ?_)
    · refine o_unwanted rfl rfl rfl rfl rfl ?_
      refine o_unwanted rfl rfl rfl rfl rfl ?_
      refine o_unwanted rfl rfl rfl rfl rfl ?_
      refine o_undef rfl rfl rfl ?_
      refine o_undef rfl rfl rfl ?_
      refine o_unwanted rfl rfl rfl rfl rfl ?_
      refine o_pick_t rfl rfl ?_
      refine o_move ?_
      refine o_unwanted rfl rfl rfl rfl rfl ?_
      refine o_unwanted rfl rfl rfl rfl rfl ?_
      refine o_pick_t rfl rfl ?_
      refine o_move ?_
      refine o_unwanted rfl rfl rfl rfl rfl ?_
      refine o_unwanted rfl rfl rfl rfl rfl ?_
      refine o_pick_t rfl rfl ?_
      refine o_assign ?_
      first | refine g_endt ?_ | refine g_end ?_
      repeat (first | refine g_endt ?_ | refine g_end ?_ | refine g_then ?_ | refine g_in_normal ?_ | refine g_then_ret ?_ | refine g_in_ret ?_ | refine g_then_exit ?_ | refine g_in_exit rfl ?_ | refine g_in_exit_ne (by decide) ?_ | refine g_seq ?_ | refine g_region ?_ | refine g_block ?_ | refine g_ret ?_ | refine g_return_n ?_ | refine g_exit ?_ | refine g_skip ?_)
      refine ret1 rfl (resT rfl) ⟨congrArg Value.bool ?_, rfl⟩
      (rw [Bool.eq_iff_iff]; simp_all [partN, smallN, digitN] <;> omega)
    · refine o_want rfl rfl rfl rfl rfl <| o_move ?_
      refine o_want rfl rfl rfl rfl rfl <| o_geq rfl rfl ?_
      refine o_want rfl rfl rfl rfl rfl <| o_moveB rfl (fun h9 => ?_) (fun h9 => ?_)
      · refine o_want rfl rfl rfl rfl rfl <| o_move ?_
        refine o_want rfl rfl rfl rfl rfl <| o_leq rfl rfl ?_
        refine o_want rfl rfl rfl rfl rfl <| o_pick_t rfl rfl ?_
        refine o_pick_f rfl rfl ?_
        refine o_moveB rfl (fun h14 => ?_) (fun h14 => ?_)
        · refine o_unwanted rfl rfl rfl rfl rfl ?_
          refine o_unwanted rfl rfl rfl rfl rfl ?_
          refine o_pick_t rfl rfl ?_
          refine o_move ?_
          refine o_unwanted rfl rfl rfl rfl rfl ?_
          refine o_unwanted rfl rfl rfl rfl rfl ?_
          refine o_pick_t rfl rfl ?_
          refine o_assign ?_
          first | refine g_endt ?_ | refine g_end ?_
          repeat (first | refine g_endt ?_ | refine g_end ?_ | refine g_then ?_ | refine g_in_normal ?_ | refine g_then_ret ?_ | refine g_in_ret ?_ | refine g_then_exit ?_ | refine g_in_exit rfl ?_ | refine g_in_exit_ne (by decide) ?_ | refine g_seq ?_ | refine g_region ?_ | refine g_block ?_ | refine g_ret ?_ | refine g_return_n ?_ | refine g_exit ?_ | refine g_skip ?_)
          refine ret1 rfl (resT rfl) ⟨congrArg Value.bool ?_, rfl⟩
          (rw [Bool.eq_iff_iff]; simp_all [partN, smallN, digitN] <;> omega)
        · refine o_want rfl rfl rfl rfl rfl <| o_move ?_
          refine o_want rfl rfl rfl rfl rfl <| o_eql rfl rfl ?_
          refine o_pick_f rfl rfl ?_
          refine o_moveB rfl (fun h18 => ?_) (fun h18 => ?_)
          · refine o_unwanted rfl rfl rfl rfl rfl ?_
            refine o_unwanted rfl rfl rfl rfl rfl ?_
            refine o_pick_t rfl rfl ?_
            refine o_assign ?_
            first | refine g_endt ?_ | refine g_end ?_
            repeat (first | refine g_endt ?_ | refine g_end ?_ | refine g_then ?_ | refine g_in_normal ?_ | refine g_then_ret ?_ | refine g_in_ret ?_ | refine g_then_exit ?_ | refine g_in_exit rfl ?_ | refine g_in_exit_ne (by decide) ?_ | refine g_seq ?_ | refine g_region ?_ | refine g_block ?_ | refine g_ret ?_ | refine g_return_n ?_ | refine g_exit ?_ | refine g_skip ?_)
            refine ret1 rfl (resT rfl) ⟨congrArg Value.bool ?_, rfl⟩
            (rw [Bool.eq_iff_iff]; simp_all [partN, smallN, digitN] <;> omega)
          · refine o_want rfl rfl rfl rfl rfl <| o_move ?_
            refine o_want rfl rfl rfl rfl rfl <| o_eql rfl rfl ?_
            refine o_pick_f rfl rfl ?_
            refine o_assign ?_
            first | refine g_endt ?_ | refine g_end ?_
            repeat (first | refine g_endt ?_ | refine g_end ?_ | refine g_then ?_ | refine g_in_normal ?_ | refine g_then_ret ?_ | refine g_in_ret ?_ | refine g_then_exit ?_ | refine g_in_exit rfl ?_ | refine g_in_exit_ne (by decide) ?_ | refine g_seq ?_ | refine g_region ?_ | refine g_block ?_ | refine g_ret ?_ | refine g_return_n ?_ | refine g_exit ?_ | refine g_skip ?_)
            refine ret1 rfl (resT rfl) ⟨congrArg Value.bool ?_, rfl⟩
            (rw [Bool.eq_iff_iff]; simp_all [partN, smallN, digitN] <;> omega)
      · refine o_unwanted rfl rfl rfl rfl rfl ?_
        refine o_unwanted rfl rfl rfl rfl rfl ?_
        refine o_want rfl rfl rfl rfl rfl <| o_pick_f rfl rfl ?_
        refine o_pick_f rfl rfl ?_
        refine o_move ?_
        refine o_want rfl rfl rfl rfl rfl <| o_move ?_
        refine o_want rfl rfl rfl rfl rfl <| o_eql rfl rfl ?_
        refine o_pick_f rfl rfl ?_
        refine o_moveB rfl (fun h18 => ?_) (fun h18 => ?_)
        · refine o_unwanted rfl rfl rfl rfl rfl ?_
          refine o_unwanted rfl rfl rfl rfl rfl ?_
          refine o_pick_t rfl rfl ?_
          refine o_assign ?_
          first | refine g_endt ?_ | refine g_end ?_
          repeat (first | refine g_endt ?_ | refine g_end ?_ | refine g_then ?_ | refine g_in_normal ?_ | refine g_then_ret ?_ | refine g_in_ret ?_ | refine g_then_exit ?_ | refine g_in_exit rfl ?_ | refine g_in_exit_ne (by decide) ?_ | refine g_seq ?_ | refine g_region ?_ | refine g_block ?_ | refine g_ret ?_ | refine g_return_n ?_ | refine g_exit ?_ | refine g_skip ?_)
          refine ret1 rfl (resT rfl) ⟨congrArg Value.bool ?_, rfl⟩
          (rw [Bool.eq_iff_iff]; simp_all [partN, smallN, digitN] <;> omega)
        · refine o_want rfl rfl rfl rfl rfl <| o_move ?_
          refine o_want rfl rfl rfl rfl rfl <| o_eql rfl rfl ?_
          refine o_pick_f rfl rfl ?_
          refine o_assign ?_
          first | refine g_endt ?_ | refine g_end ?_
          repeat (first | refine g_endt ?_ | refine g_end ?_ | refine g_then ?_ | refine g_in_normal ?_ | refine g_then_ret ?_ | refine g_in_ret ?_ | refine g_then_exit ?_ | refine g_in_exit rfl ?_ | refine g_in_exit_ne (by decide) ?_ | refine g_seq ?_ | refine g_region ?_ | refine g_block ?_ | refine g_ret ?_ | refine g_return_n ?_ | refine g_exit ?_ | refine g_skip ?_)
          refine ret1 rfl (resT rfl) ⟨congrArg Value.bool ?_, rfl⟩
          (rw [Bool.eq_iff_iff]; simp_all [partN, smallN, digitN] <;> omega)
  · refine o_unwanted rfl rfl rfl rfl rfl ?_
    refine o_unwanted rfl rfl rfl rfl rfl ?_
    refine o_pick_f rfl rfl ?_
    refine o_move ?_
    refine o_want rfl rfl rfl rfl rfl <| o_move ?_
    refine o_want rfl rfl rfl rfl rfl <| o_geq rfl rfl ?_
    refine o_want rfl rfl rfl rfl rfl <| o_moveB rfl (fun h9 => ?_) (fun h9 => ?_)
    · refine o_want rfl rfl rfl rfl rfl <| o_move ?_
      refine o_want rfl rfl rfl rfl rfl <| o_leq rfl rfl ?_
      refine o_want rfl rfl rfl rfl rfl <| o_pick_t rfl rfl ?_
      refine o_pick_f rfl rfl ?_
      refine o_moveB rfl (fun h14 => ?_) (fun h14 => ?_)
      · refine o_unwanted rfl rfl rfl rfl rfl ?_
        refine o_unwanted rfl rfl rfl rfl rfl ?_
        refine o_pick_t rfl rfl ?_
        refine o_move ?_
        refine o_unwanted rfl rfl rfl rfl rfl ?_
        refine o_unwanted rfl rfl rfl rfl rfl ?_
        refine o_pick_t rfl rfl ?_
        refine o_assign ?_
        first | refine g_endt ?_ | refine g_end ?_
        repeat (first | refine g_endt ?_ | refine g_end ?_ | refine g_then ?_ | refine g_in_normal ?_ | refine g_then_ret ?_ | refine g_in_ret ?_ | refine g_then_exit ?_ | refine g_in_exit rfl ?_ | refine g_in_exit_ne (by decide) ?_ | refine g_seq ?_ | refine g_region ?_ | refine g_block ?_ | refine g_ret ?_ | refine g_return_n ?_ | refine g_exit ?_ | refine g_skip ?_)
        refine ret1 rfl (resT rfl) ⟨congrArg Value.bool ?_, rfl⟩
        (rw [Bool.eq_iff_iff]; simp_all [partN, smallN, digitN] <;> omega)
      · refine o_want rfl rfl rfl rfl rfl <| o_move ?_
        refine o_want rfl rfl rfl rfl rfl <| o_eql rfl rfl ?_
        refine o_pick_f rfl rfl ?_
        refine o_moveB rfl (fun h18 => ?_) (fun h18 => ?_)
        · refine o_unwanted rfl rfl rfl rfl rfl ?_
          refine o_unwanted rfl rfl rfl rfl rfl ?_
          refine o_pick_t rfl rfl ?_
          refine o_assign ?_
          first | refine g_endt ?_ | refine g_end ?_
          repeat (first | refine g_endt ?_ | refine g_end ?_ | refine g_then ?_ | refine g_in_normal ?_ | refine g_then_ret ?_ | refine g_in_ret ?_ | refine g_then_exit ?_ | refine g_in_exit rfl ?_ | refine g_in_exit_ne (by decide) ?_ | refine g_seq ?_ | refine g_region ?_ | refine g_block ?_ | refine g_ret ?_ | refine g_return_n ?_ | refine g_exit ?_ | refine g_skip ?_)
          refine ret1 rfl (resT rfl) ⟨congrArg Value.bool ?_, rfl⟩
          (rw [Bool.eq_iff_iff]; simp_all [partN, smallN, digitN] <;> omega)
        · refine o_want rfl rfl rfl rfl rfl <| o_move ?_
          refine o_want rfl rfl rfl rfl rfl <| o_eql rfl rfl ?_
          refine o_pick_f rfl rfl ?_
          refine o_assign ?_
          first | refine g_endt ?_ | refine g_end ?_
          repeat (first | refine g_endt ?_ | refine g_end ?_ | refine g_then ?_ | refine g_in_normal ?_ | refine g_then_ret ?_ | refine g_in_ret ?_ | refine g_then_exit ?_ | refine g_in_exit rfl ?_ | refine g_in_exit_ne (by decide) ?_ | refine g_seq ?_ | refine g_region ?_ | refine g_block ?_ | refine g_ret ?_ | refine g_return_n ?_ | refine g_exit ?_ | refine g_skip ?_)
          refine ret1 rfl (resT rfl) ⟨congrArg Value.bool ?_, rfl⟩
          (rw [Bool.eq_iff_iff]; simp_all [partN, smallN, digitN] <;> omega)
    · refine o_unwanted rfl rfl rfl rfl rfl ?_
      refine o_unwanted rfl rfl rfl rfl rfl ?_
      refine o_want rfl rfl rfl rfl rfl <| o_pick_f rfl rfl ?_
      refine o_pick_f rfl rfl ?_
      refine o_move ?_
      refine o_want rfl rfl rfl rfl rfl <| o_move ?_
      refine o_want rfl rfl rfl rfl rfl <| o_eql rfl rfl ?_
      refine o_pick_f rfl rfl ?_
      refine o_moveB rfl (fun h18 => ?_) (fun h18 => ?_)
      · refine o_unwanted rfl rfl rfl rfl rfl ?_
        refine o_unwanted rfl rfl rfl rfl rfl ?_
        refine o_pick_t rfl rfl ?_
        refine o_assign ?_
        first | refine g_endt ?_ | refine g_end ?_
        repeat (first | refine g_endt ?_ | refine g_end ?_ | refine g_then ?_ | refine g_in_normal ?_ | refine g_then_ret ?_ | refine g_in_ret ?_ | refine g_then_exit ?_ | refine g_in_exit rfl ?_ | refine g_in_exit_ne (by decide) ?_ | refine g_seq ?_ | refine g_region ?_ | refine g_block ?_ | refine g_ret ?_ | refine g_return_n ?_ | refine g_exit ?_ | refine g_skip ?_)
        refine ret1 rfl (resT rfl) ⟨congrArg Value.bool ?_, rfl⟩
        (rw [Bool.eq_iff_iff]; simp_all [partN, smallN, digitN] <;> omega)
      · refine o_want rfl rfl rfl rfl rfl <| o_move ?_
        refine o_want rfl rfl rfl rfl rfl <| o_eql rfl rfl ?_
        refine o_pick_f rfl rfl ?_
        refine o_assign ?_
        first | refine g_endt ?_ | refine g_end ?_
        repeat (first | refine g_endt ?_ | refine g_end ?_ | refine g_then ?_ | refine g_in_normal ?_ | refine g_then_ret ?_ | refine g_in_ret ?_ | refine g_then_exit ?_ | refine g_in_exit rfl ?_ | refine g_in_exit_ne (by decide) ?_ | refine g_seq ?_ | refine g_region ?_ | refine g_block ?_ | refine g_ret ?_ | refine g_return_n ?_ | refine g_exit ?_ | refine g_skip ?_)
        refine ret1 rfl (resT rfl) ⟨congrArg Value.bool ?_, rfl⟩
        (rw [Bool.eq_iff_iff]; simp_all [partN, smallN, digitN] <;> omega)
end Go.Proofs.Ytfakoemkapankaa
/- Words and symbols, elements: which are right. -/
namespace Go.Proofs.Ytfakoemkapankaa
open Go Go.Sl
attribute [local irreducible] Code.wpIn roundPost bodyPostM runL Ret Meets Begin

/-- The head of a word: its length, its first letter. -/
def headS (s : ByteArray) : Bool := decide (1 ≤ s.size) && decide (s.size ≤ 32) && smallN (byteN s 0)
theorem wordS_head (s : ByteArray) : wordS s = (headS s && (List.range s.size).all fun i => partN (byteN s i)) := rfl
theorem range_all {n : Nat} {p : Nat → Bool} (h : ∀ i, i < n → p i = true) : (List.range n).all p = true := List.all_eq_true.2 fun i hi => h i (List.mem_range.1 hi)
theorem range_not {n i : Nat} {p : Nat → Bool} (hi : i < n) (h : p i = false) : (List.range n).all p = false := by
  cases hc : (List.range n).all p with
  | false => rfl
  | true => rw [List.all_eq_true.1 hc i (List.mem_range.2 hi)] at h; cases h
theorem Word_spec (s : ByteArray) (hb : s.size ≤ 4611686018427387904) : Ctr Try.prog 177 [.string s] [] (fun v M => v = .bool (wordS s) ∧ M = []) := by
  refine spec_of Try.func177 rfl Try.ntmps177 rfl fun w0 F => ?_
  -- ponder/sym.Word
  repeat (first | refine g_endt ?_ | refine g_end ?_ | refine g_then ?_ | refine g_in_normal ?_ | refine g_then_ret ?_ | refine g_in_ret ?_ | refine g_then_exit ?_ | refine g_in_exit rfl ?_ | refine g_in_exit_ne (by decide) ?_ | refine g_seq ?_ | refine g_region ?_ | refine g_block ?_ | refine g_ret ?_ | refine g_return_n ?_ | refine g_exit ?_ | refine g_skip ?_)
  refine o_assign ?_
  first | refine g_endt ?_ | refine g_end ?_
  repeat (first | refine g_endt ?_ | refine g_end ?_ | refine g_then ?_ | refine g_in_normal ?_ | refine g_then_ret ?_ | refine g_in_ret ?_ | refine g_then_exit ?_ | refine g_in_exit rfl ?_ | refine g_in_exit_ne (by decide) ?_ | refine g_seq ?_ | refine g_block ?_ | refine g_ret ?_ | refine g_return_n ?_ | refine g_exit ?_ | refine g_skip ?_)
  refine g_cutk (σ := Unit) (ds' := []) (S := fun _ => [(0, .string s), (17, .bool (!headS s))]) (H := fun _ => []) (ok := fun _ => True) ?_ ?_
  · skip
    repeat (first | refine g_endt ?_ | refine g_end ?_ | refine g_then ?_ | refine g_in_normal ?_ | refine g_then_ret ?_ | refine g_in_ret ?_ | refine g_then_exit ?_ | refine g_in_exit rfl ?_ | refine g_in_exit_ne (by decide) ?_ | refine g_seq ?_ | refine g_region ?_ | refine g_block ?_ | refine g_ret ?_ | refine g_return_n ?_ | refine g_exit ?_ | refine g_skip ?_)
    refine o_move ?_
    refine o_slen rfl rfl (by kernel_rfl) ?_
    refine o_lss rfl rfl ?_
    refine o_moveB rfl (fun h3 => ?_) (fun h3 => ?_)
    · refine o_unwanted rfl rfl rfl rfl rfl ?_
      refine o_unwanted rfl rfl rfl rfl rfl ?_
      refine o_unwanted rfl rfl rfl rfl rfl ?_
      refine o_pick_t rfl rfl ?_
      refine o_move ?_
      refine o_unwanted rfl rfl rfl rfl rfl ?_
      refine o_unwanted rfl rfl rfl rfl rfl ?_
      refine o_unwanted rfl rfl rfl rfl rfl ?_
      refine o_unwanted rfl rfl rfl rfl rfl ?_
      refine o_pick_t rfl rfl ?_
      first | refine g_endt ?_ | refine g_end ?_
      refine g_meets () trivial (Sat.mem ⟨rfl, congrArg Value.bool ?_, trivial⟩)
      ((try (simp only [decide_eq_true_eq, decide_eq_false_iff_not, ge_iff_le, gt_iff_lt] at *)); unfold headS; generalize s.size = n at *; cases hsm : smallN (byteN s 0) <;> simp <;> omega)
    · refine o_want rfl rfl rfl rfl rfl <| o_move ?_
      refine o_want rfl rfl rfl rfl rfl <| o_slen rfl rfl (by kernel_rfl) ?_
      refine o_want rfl rfl rfl rfl rfl <| o_gtr rfl rfl ?_
      refine o_pick_f rfl rfl ?_
      refine o_moveB rfl (fun h8 => ?_) (fun h8 => ?_)
      · refine o_unwanted rfl rfl rfl rfl rfl ?_
        refine o_unwanted rfl rfl rfl rfl rfl ?_
        refine o_unwanted rfl rfl rfl rfl rfl ?_
        refine o_unwanted rfl rfl rfl rfl rfl ?_
        refine o_pick_t rfl rfl ?_
        first | refine g_endt ?_ | refine g_end ?_
        refine g_meets () trivial (Sat.mem ⟨rfl, congrArg Value.bool ?_, trivial⟩)
        ((try (simp only [decide_eq_true_eq, decide_eq_false_iff_not, ge_iff_le, gt_iff_lt] at *)); unfold headS; generalize s.size = n at *; cases hsm : smallN (byteN s 0) <;> simp <;> omega)
      · refine o_want rfl rfl rfl rfl rfl <| o_move ?_
        refine o_want rfl rfl rfl rfl rfl <| o_sindex (i := 0) rfl rfl rfl (by have := of_decide_eq_false h3; omega) (by kernel_rfl) ?_
        refine o_want rfl rfl rfl rfl rfl <| o_call (small_spec (byteN s 0)) rfl rfl ?_
        rintro _ _ ⟨rfl, rfl⟩
        refine o_want rfl rfl rfl rfl rfl <| o_not rfl ?_
        refine o_pick_f rfl rfl ?_
        first | refine g_endt ?_ | refine g_end ?_
        refine g_meets () trivial (Sat.mem ⟨rfl, congrArg Value.bool ?_, trivial⟩)
        ((try (simp only [decide_eq_true_eq, decide_eq_false_iff_not, ge_iff_le, gt_iff_lt] at *)); unfold headS; generalize s.size = n at *; cases hsm : smallN (byteN s 0) <;> simp <;> omega)
  intro _ ρ1 _
  cases hh : headS s with
  | false =>
    first | refine g_seq (g_cond_t rfl (by first | rfl | (simp; done) | (simp; omega) | (simp; assumption)) ?_) | refine g_cond_t rfl (by first | rfl | (simp; done) | (simp; omega) | (simp; assumption)) ?_
    repeat (first | refine g_endt ?_ | refine g_end ?_ | refine g_then ?_ | refine g_in_normal ?_ | refine g_then_ret ?_ | refine g_in_ret ?_ | refine g_then_exit ?_ | refine g_in_exit rfl ?_ | refine g_in_exit_ne (by decide) ?_ | refine g_seq ?_ | refine g_region ?_ | refine g_block ?_ | refine g_ret ?_ | refine g_return_n ?_ | refine g_exit ?_ | refine g_skip ?_)
    refine o_assign ?_
    first | refine g_endt ?_ | refine g_end ?_
    repeat (first | refine g_endt ?_ | refine g_end ?_ | refine g_then ?_ | refine g_in_normal ?_ | refine g_then_ret ?_ | refine g_in_ret ?_ | refine g_then_exit ?_ | refine g_in_exit rfl ?_ | refine g_in_exit_ne (by decide) ?_ | refine g_seq ?_ | refine g_region ?_ | refine g_block ?_ | refine g_ret ?_ | refine g_return_n ?_ | refine g_exit ?_ | refine g_skip ?_)
    exact ret1 (K := []) rfl (resT rfl) ⟨by rw [wordS_head, hh]; rfl, rfl⟩
  | true =>
    have h1 : 1 ≤ s.size := by simp [headS] at hh; omega
    have h0 : partN (byteN s 0) = true := by simp [headS] at hh; simp [partN, hh]
    have h01 : ∀ j, j < 1 → partN (byteN s j) = true := fun j hj => by
      have : j = 0 := by omega
      subst this; exact h0
    first | refine g_seq (g_cond_f rfl (by first | rfl | (simp; done) | (simp; omega) | (simp; assumption)) ?_) | refine g_cond_f rfl (by first | rfl | (simp; done) | (simp; omega) | (simp; assumption)) ?_
    repeat (first | refine g_endt ?_ | refine g_end ?_ | refine g_then ?_ | refine g_in_normal ?_ | refine g_then_ret ?_ | refine g_in_ret ?_ | refine g_then_exit ?_ | refine g_in_exit rfl ?_ | refine g_in_exit_ne (by decide) ?_ | refine g_seq ?_ | refine g_region ?_ | refine g_block ?_ | refine g_ret ?_ | refine g_return_n ?_ | refine g_exit ?_ | refine g_skip ?_)
    refine o_assign ?_
    first | refine g_endt ?_ | refine g_end ?_
    repeat (first | refine g_endt ?_ | refine g_end ?_ | refine g_then ?_ | refine g_in_normal ?_ | refine g_then_ret ?_ | refine g_in_ret ?_ | refine g_then_exit ?_ | refine g_in_exit rfl ?_ | refine g_in_exit_ne (by decide) ?_ | refine g_seq ?_ | refine g_region ?_ | refine g_block ?_ | refine g_ret ?_ | refine g_return_n ?_ | refine g_exit ?_ | refine g_skip ?_)
    refine g_loop (σ := {i : Nat // 1 ≤ i ∧ i ≤ s.size ∧ ∀ j, j < i → partN (byteN s j) = true}) (S := fun i => [(0, .string s), (3, .int .i64 (i.1 : Int))]) (H := fun _ => []) (μ := fun i => s.size - i.1)
      (s0 := ⟨1, Nat.le_refl _, h1, h01⟩) (Sat.mem ⟨rfl, rfl, trivial⟩) ?_
    rintro ⟨i, hi1, hi, hp⟩ ρ2
    dsimp only at hi1 hi hp ⊢
    repeat (first | refine g_endt ?_ | refine g_end ?_ | refine g_then ?_ | refine g_in_normal ?_ | refine g_then_ret ?_ | refine g_in_ret ?_ | refine g_then_exit ?_ | refine g_in_exit rfl ?_ | refine g_in_exit_ne (by decide) ?_ | refine g_seq ?_ | refine g_region ?_ | refine g_block ?_ | refine g_ret ?_ | refine g_return_n ?_ | refine g_exit ?_ | refine g_skip ?_)
    refine o_move ?_
    refine o_move ?_
    refine o_slen rfl rfl (by kernel_rfl) ?_
    refine o_lss rfl rfl ?_
    first | refine g_endt ?_ | refine g_end ?_
    by_cases h : i < s.size
    · first | refine g_seq (g_cond_t rfl (by first | rfl | (simp; done) | (simp; omega) | (simp; assumption)) ?_) | refine g_cond_t rfl (by first | rfl | (simp; done) | (simp; omega) | (simp; assumption)) ?_
      repeat (first | refine g_endt ?_ | refine g_end ?_ | refine g_then ?_ | refine g_in_normal ?_ | refine g_then_ret ?_ | refine g_in_ret ?_ | refine g_then_exit ?_ | refine g_in_exit rfl ?_ | refine g_in_exit_ne (by decide) ?_ | refine g_seq ?_ | refine g_block ?_ | refine g_ret ?_ | refine g_return_n ?_ | refine g_exit ?_ | refine g_skip ?_)
      refine g_cutk (σ := Unit) (ds' := []) (S := fun _ => [(0, .string s), (3, .int .i64 (i : Int)), (47, .bool (!partN (byteN s i)))]) (H := fun _ => []) (ok := fun _ => True) ?_ ?_
      · skip
        repeat (first | refine g_endt ?_ | refine g_end ?_ | refine g_then ?_ | refine g_in_normal ?_ | refine g_then_ret ?_ | refine g_in_ret ?_ | refine g_then_exit ?_ | refine g_in_exit rfl ?_ | refine g_in_exit_ne (by decide) ?_ | refine g_seq ?_ | refine g_region ?_ | refine g_block ?_ | refine g_ret ?_ | refine g_return_n ?_ | refine g_exit ?_ | refine g_skip ?_)
        refine o_move ?_
        refine o_move ?_
        refine o_sindex (i := i) rfl rfl rfl h (by kernel_rfl) ?_
        refine o_call (small_spec (byteN s i)) rfl rfl ?_
        rintro _ _ ⟨rfl, rfl⟩
        refine o_not rfl ?_
        refine o_moveB rfl (fun h5 => ?_) (fun h5 => ?_)
        · refine o_want rfl rfl rfl rfl rfl <| o_move ?_
          refine o_want rfl rfl rfl rfl rfl <| o_move ?_
          refine o_want rfl rfl rfl rfl rfl <| o_sindex (i := i) rfl rfl rfl h (by kernel_rfl) ?_
          refine o_want rfl rfl rfl rfl rfl <| o_call (digit_spec (byteN s i)) rfl rfl ?_
          rintro _ _ ⟨rfl, rfl⟩
          refine o_want rfl rfl rfl rfl rfl <| o_not rfl ?_
          refine o_pick_t rfl rfl ?_
          refine o_moveB rfl (fun h12 => ?_) (fun h12 => ?_)
          · refine o_want rfl rfl rfl rfl rfl <| o_move ?_
            refine o_want rfl rfl rfl rfl rfl <| o_move ?_
            refine o_want rfl rfl rfl rfl rfl <| o_sindex (i := i) rfl rfl rfl h (by kernel_rfl) ?_
            refine o_want rfl rfl rfl rfl rfl <| o_neq rfl rfl ?_
            refine o_pick_t rfl rfl ?_
            refine o_moveB rfl (fun h18 => ?_) (fun h18 => ?_)
            · refine o_want rfl rfl rfl rfl rfl <| o_move ?_
              refine o_want rfl rfl rfl rfl rfl <| o_move ?_
              refine o_want rfl rfl rfl rfl rfl <| o_sindex (i := i) rfl rfl rfl h (by kernel_rfl) ?_
              refine o_want rfl rfl rfl rfl rfl <| o_neq rfl rfl ?_
              refine o_pick_t rfl rfl ?_
              first | refine g_endt ?_ | refine g_end ?_
              refine g_meets () trivial (Sat.mem ⟨rfl, rfl, congrArg Value.bool ?_, trivial⟩)
              (simp only [partN]; cases hsm : smallN (byteN s i) <;> cases hdg : digitN (byteN s i) <;> (rw [Bool.eq_iff_iff]; simp [hsm, hdg] at * <;> omega))
            · refine o_unwanted rfl rfl rfl rfl rfl ?_
              refine o_unwanted rfl rfl rfl rfl rfl ?_
              refine o_unwanted rfl rfl rfl rfl rfl ?_
              refine o_unwanted rfl rfl rfl rfl rfl ?_
              refine o_pick_f rfl rfl ?_
              first | refine g_endt ?_ | refine g_end ?_
              refine g_meets () trivial (Sat.mem ⟨rfl, rfl, congrArg Value.bool ?_, trivial⟩)
              (simp only [partN]; cases hsm : smallN (byteN s i) <;> cases hdg : digitN (byteN s i) <;> (rw [Bool.eq_iff_iff]; simp [hsm, hdg] at * <;> omega))
          · refine o_unwanted rfl rfl rfl rfl rfl ?_
            refine o_unwanted rfl rfl rfl rfl rfl ?_
            refine o_unwanted rfl rfl rfl rfl rfl ?_
            refine o_unwanted rfl rfl rfl rfl rfl ?_
            refine o_pick_f rfl rfl ?_
            refine o_move ?_
            refine o_unwanted rfl rfl rfl rfl rfl ?_
            refine o_unwanted rfl rfl rfl rfl rfl ?_
            refine o_unwanted rfl rfl rfl rfl rfl ?_
            refine o_unwanted rfl rfl rfl rfl rfl ?_
            refine o_pick_f rfl rfl ?_
            first | refine g_endt ?_ | refine g_end ?_
            refine g_meets () trivial (Sat.mem ⟨rfl, rfl, congrArg Value.bool ?_, trivial⟩)
            (simp only [partN]; cases hsm : smallN (byteN s i) <;> cases hdg : digitN (byteN s i) <;> (rw [Bool.eq_iff_iff]; simp [hsm, hdg] at * <;> omega))
        · refine o_unwanted rfl rfl rfl rfl rfl ?_
          refine o_unwanted rfl rfl rfl rfl rfl ?_
          refine o_unwanted rfl rfl rfl rfl rfl ?_
          refine o_unwanted rfl rfl rfl rfl rfl ?_
          refine o_unwanted rfl rfl rfl rfl rfl ?_
          refine o_pick_f rfl rfl ?_
          refine o_move ?_
          refine o_unwanted rfl rfl rfl rfl rfl ?_
          refine o_unwanted rfl rfl rfl rfl rfl ?_
          refine o_unwanted rfl rfl rfl rfl rfl ?_
          refine o_unwanted rfl rfl rfl rfl rfl ?_
          refine o_pick_f rfl rfl ?_
          refine o_move ?_
          refine o_unwanted rfl rfl rfl rfl rfl ?_
          refine o_unwanted rfl rfl rfl rfl rfl ?_
          refine o_unwanted rfl rfl rfl rfl rfl ?_
          refine o_unwanted rfl rfl rfl rfl rfl ?_
          refine o_pick_f rfl rfl ?_
          first | refine g_endt ?_ | refine g_end ?_
          refine g_meets () trivial (Sat.mem ⟨rfl, rfl, congrArg Value.bool ?_, trivial⟩)
          (simp only [partN]; cases hsm : smallN (byteN s i) <;> cases hdg : digitN (byteN s i) <;> (rw [Bool.eq_iff_iff]; simp [hsm, hdg] at * <;> omega))
      intro _ ρ3 _
      cases hc : partN (byteN s i) with
      | false =>
        first | refine g_seq (g_cond_t rfl (by first | rfl | (simp; done) | (simp; omega) | (simp; assumption)) ?_) | refine g_cond_t rfl (by first | rfl | (simp; done) | (simp; omega) | (simp; assumption)) ?_
        repeat (first | refine g_endt ?_ | refine g_end ?_ | refine g_then ?_ | refine g_in_normal ?_ | refine g_then_ret ?_ | refine g_in_ret ?_ | refine g_then_exit ?_ | refine g_in_exit rfl ?_ | refine g_in_exit_ne (by decide) ?_ | refine g_seq ?_ | refine g_region ?_ | refine g_block ?_ | refine g_ret ?_ | refine g_return_n ?_ | refine g_exit ?_ | refine g_skip ?_)
        refine o_assign ?_
        first | refine g_endt ?_ | refine g_end ?_
        repeat (first | refine g_endt ?_ | refine g_end ?_ | refine g_then ?_ | refine g_in_normal ?_ | refine g_then_ret ?_ | refine g_in_ret ?_ | refine g_then_exit ?_ | refine g_in_exit rfl ?_ | refine g_in_exit_ne (by decide) ?_ | refine g_seq ?_ | refine g_region ?_ | refine g_block ?_ | refine g_ret ?_ | refine g_return_n ?_ | refine g_exit ?_ | refine g_skip ?_)
        exact ret1 (K := []) rfl (resT (v := .bool false) rfl) ⟨by rw [wordS_head, range_not h hc, Bool.and_false], rfl⟩
      | true =>
        first | refine g_seq (g_cond_f rfl (by first | rfl | (simp; done) | (simp; omega) | (simp; assumption)) ?_) | refine g_cond_f rfl (by first | rfl | (simp; done) | (simp; omega) | (simp; assumption)) ?_
        repeat (first | refine g_endt ?_ | refine g_end ?_ | refine g_then ?_ | refine g_in_normal ?_ | refine g_then_ret ?_ | refine g_in_ret ?_ | refine g_then_exit ?_ | refine g_in_exit rfl ?_ | refine g_in_exit_ne (by decide) ?_ | refine g_seq ?_ | refine g_region ?_ | refine g_block ?_ | refine g_ret ?_ | refine g_return_n ?_ | refine g_exit ?_ | refine g_skip ?_)
        refine o_move ?_
        refine o_add (c := ((i + 1 : Nat) : Int)) rfl rfl (by omega) (by omega) (by omega) ?_
        refine o_assign ?_
        first | refine g_endt ?_ | refine g_end ?_
        repeat (first | refine g_endt ?_ | refine g_end ?_ | refine g_then ?_ | refine g_in_normal ?_ | refine g_then_ret ?_ | refine g_in_ret ?_ | refine g_then_exit ?_ | refine g_in_exit rfl ?_ | refine g_in_exit_ne (by decide) ?_ | refine g_seq ?_ | refine g_region ?_ | refine g_block ?_ | refine g_ret ?_ | refine g_return_n ?_ | refine g_exit ?_ | refine g_skip ?_)
        have hn : ∀ j, j < i + 1 → partN (byteN s j) = true := fun j hj => by
          by_cases e : j = i
          · subst e; exact hc
          · exact hp j (by omega)
        exact g_meets (⟨i + 1, by omega, h, hn⟩) (by first | exact trivial | (dsimp only; omega)) (Sat.mem (by repeat (first | exact trivial | refine And.intro rfl ?_)))
    · first | refine g_seq (g_cond_f rfl (by simp; omega) ?_) | refine g_cond_f rfl (by simp; omega) ?_
      repeat (first | refine g_endt ?_ | refine g_end ?_ | refine g_then ?_ | refine g_in_normal ?_ | refine g_then_ret ?_ | refine g_in_ret ?_ | refine g_then_exit ?_ | refine g_in_exit rfl ?_ | refine g_in_exit_ne (by decide) ?_ | refine g_seq ?_ | refine g_region ?_ | refine g_block ?_ | refine g_ret ?_ | refine g_return_n ?_ | refine g_exit ?_ | refine g_skip ?_)
      refine o_assign ?_
      first | refine g_endt ?_ | refine g_end ?_
      repeat (first | refine g_endt ?_ | refine g_end ?_ | refine g_then ?_ | refine g_in_normal ?_ | refine g_then_ret ?_ | refine g_in_ret ?_ | refine g_then_exit ?_ | refine g_in_exit rfl ?_ | refine g_in_exit_ne (by decide) ?_ | refine g_seq ?_ | refine g_region ?_ | refine g_block ?_ | refine g_ret ?_ | refine g_return_n ?_ | refine g_exit ?_ | refine g_skip ?_)
      exact ret1 (K := []) rfl (resT rfl) ⟨by rw [wordS_head, hh, range_all fun j hj => hp j (by omega)]; rfl, rfl⟩
theorem Word04_spec (s : ByteArray) (hb : s.size ≤ 4611686018427387904) : Ctr Try.prog 106 [.string s] [] (fun v M => v = .bool (wordS s) ∧ M = []) := by
  refine spec_of Try.func106 rfl Try.ntmps106 rfl fun w0 F => ?_
  -- ponder/ponderref04.Word
  repeat (first | refine g_endt ?_ | refine g_end ?_ | refine g_then ?_ | refine g_in_normal ?_ | refine g_then_ret ?_ | refine g_in_ret ?_ | refine g_then_exit ?_ | refine g_in_exit rfl ?_ | refine g_in_exit_ne (by decide) ?_ | refine g_seq ?_ | refine g_region ?_ | refine g_block ?_ | refine g_ret ?_ | refine g_return_n ?_ | refine g_exit ?_ | refine g_skip ?_)
  refine o_assign ?_
  first | refine g_endt ?_ | refine g_end ?_
  repeat (first | refine g_endt ?_ | refine g_end ?_ | refine g_then ?_ | refine g_in_normal ?_ | refine g_then_ret ?_ | refine g_in_ret ?_ | refine g_then_exit ?_ | refine g_in_exit rfl ?_ | refine g_in_exit_ne (by decide) ?_ | refine g_seq ?_ | refine g_block ?_ | refine g_ret ?_ | refine g_return_n ?_ | refine g_exit ?_ | refine g_skip ?_)
  refine g_cutk (σ := Unit) (ds' := []) (S := fun _ => [(0, .string s), (21, .bool (!headS s))]) (H := fun _ => []) (ok := fun _ => True) ?_ ?_
  · skip
    repeat (first | refine g_endt ?_ | refine g_end ?_ | refine g_then ?_ | refine g_in_normal ?_ | refine g_then_ret ?_ | refine g_in_ret ?_ | refine g_then_exit ?_ | refine g_in_exit rfl ?_ | refine g_in_exit_ne (by decide) ?_ | refine g_seq ?_ | refine g_region ?_ | refine g_block ?_ | refine g_ret ?_ | refine g_return_n ?_ | refine g_exit ?_ | refine g_skip ?_)
    refine o_move ?_
    refine o_slen rfl rfl (by kernel_rfl) ?_
    refine o_lss rfl rfl ?_
    refine o_moveB rfl (fun h3 => ?_) (fun h3 => ?_)
    · refine o_unwanted rfl rfl rfl rfl rfl ?_
      refine o_unwanted rfl rfl rfl rfl rfl ?_
      refine o_unwanted rfl rfl rfl rfl rfl ?_
      refine o_pick_t rfl rfl ?_
      refine o_move ?_
      refine o_unwanted rfl rfl rfl rfl rfl ?_
      refine o_unwanted rfl rfl rfl rfl rfl ?_
      refine o_unwanted rfl rfl rfl rfl rfl ?_
      refine o_pick_t rfl rfl ?_
      refine o_move ?_
      refine o_unwanted rfl rfl rfl rfl rfl ?_
      refine o_unwanted rfl rfl rfl rfl rfl ?_
      refine o_unwanted rfl rfl rfl rfl rfl ?_
      refine o_pick_t rfl rfl ?_
      first | refine g_endt ?_ | refine g_end ?_
      refine g_meets () trivial (Sat.mem ⟨rfl, congrArg Value.bool ?_, trivial⟩)
      ((try (simp only [decide_eq_true_eq, decide_eq_false_iff_not, ge_iff_le, gt_iff_lt] at *)); unfold headS smallN; generalize s.size = n at *; rw [Bool.eq_iff_iff]; simp <;> omega)
    · refine o_want rfl rfl rfl rfl rfl <| o_move ?_
      refine o_want rfl rfl rfl rfl rfl <| o_slen rfl rfl (by kernel_rfl) ?_
      refine o_want rfl rfl rfl rfl rfl <| o_gtr rfl rfl ?_
      refine o_pick_f rfl rfl ?_
      refine o_moveB rfl (fun h8 => ?_) (fun h8 => ?_)
      · refine o_unwanted rfl rfl rfl rfl rfl ?_
        refine o_unwanted rfl rfl rfl rfl rfl ?_
        refine o_unwanted rfl rfl rfl rfl rfl ?_
        refine o_pick_t rfl rfl ?_
        refine o_move ?_
        refine o_unwanted rfl rfl rfl rfl rfl ?_
        refine o_unwanted rfl rfl rfl rfl rfl ?_
        refine o_unwanted rfl rfl rfl rfl rfl ?_
        refine o_pick_t rfl rfl ?_
        first | refine g_endt ?_ | refine g_end ?_
        refine g_meets () trivial (Sat.mem ⟨rfl, congrArg Value.bool ?_, trivial⟩)
        ((try (simp only [decide_eq_true_eq, decide_eq_false_iff_not, ge_iff_le, gt_iff_lt] at *)); unfold headS smallN; generalize s.size = n at *; rw [Bool.eq_iff_iff]; simp <;> omega)
      · refine o_want rfl rfl rfl rfl rfl <| o_move ?_
        refine o_want rfl rfl rfl rfl rfl <| o_sindex (i := 0) rfl rfl rfl (by have := of_decide_eq_false h3; omega) (by kernel_rfl) ?_
        refine o_want rfl rfl rfl rfl rfl <| o_lss rfl rfl ?_
        refine o_pick_f rfl rfl ?_
        refine o_moveB rfl (fun h13 => ?_) (fun h13 => ?_)
        · refine o_unwanted rfl rfl rfl rfl rfl ?_
          refine o_unwanted rfl rfl rfl rfl rfl ?_
          refine o_unwanted rfl rfl rfl rfl rfl ?_
          refine o_pick_t rfl rfl ?_
          first | refine g_endt ?_ | refine g_end ?_
          refine g_meets () trivial (Sat.mem ⟨rfl, congrArg Value.bool ?_, trivial⟩)
          ((try (simp only [decide_eq_true_eq, decide_eq_false_iff_not, ge_iff_le, gt_iff_lt] at *)); unfold headS smallN; generalize s.size = n at *; rw [Bool.eq_iff_iff]; simp <;> omega)
        · refine o_want rfl rfl rfl rfl rfl <| o_move ?_
          refine o_want rfl rfl rfl rfl rfl <| o_sindex (i := 0) rfl rfl rfl (by have := of_decide_eq_false h3; omega) (by kernel_rfl) ?_
          refine o_want rfl rfl rfl rfl rfl <| o_gtr rfl rfl ?_
          refine o_pick_f rfl rfl ?_
          first | refine g_endt ?_ | refine g_end ?_
          refine g_meets () trivial (Sat.mem ⟨rfl, congrArg Value.bool ?_, trivial⟩)
          ((try (simp only [decide_eq_true_eq, decide_eq_false_iff_not, ge_iff_le, gt_iff_lt] at *)); unfold headS smallN; generalize s.size = n at *; rw [Bool.eq_iff_iff]; simp <;> omega)
  intro _ ρ1 _
  cases hh : headS s with
  | false =>
    first | refine g_seq (g_cond_t rfl (by first | rfl | (simp; done) | (simp; omega) | (simp; assumption)) ?_) | refine g_cond_t rfl (by first | rfl | (simp; done) | (simp; omega) | (simp; assumption)) ?_
    repeat (first | refine g_endt ?_ | refine g_end ?_ | refine g_then ?_ | refine g_in_normal ?_ | refine g_then_ret ?_ | refine g_in_ret ?_ | refine g_then_exit ?_ | refine g_in_exit rfl ?_ | refine g_in_exit_ne (by decide) ?_ | refine g_seq ?_ | refine g_region ?_ | refine g_block ?_ | refine g_ret ?_ | refine g_return_n ?_ | refine g_exit ?_ | refine g_skip ?_)
    refine o_assign ?_
    first | refine g_endt ?_ | refine g_end ?_
    repeat (first | refine g_endt ?_ | refine g_end ?_ | refine g_then ?_ | refine g_in_normal ?_ | refine g_then_ret ?_ | refine g_in_ret ?_ | refine g_then_exit ?_ | refine g_in_exit rfl ?_ | refine g_in_exit_ne (by decide) ?_ | refine g_seq ?_ | refine g_region ?_ | refine g_block ?_ | refine g_ret ?_ | refine g_return_n ?_ | refine g_exit ?_ | refine g_skip ?_)
    exact ret1 (K := []) rfl (resT rfl) ⟨by rw [wordS_head, hh]; rfl, rfl⟩
  | true =>
    first | refine g_seq (g_cond_f rfl (by first | rfl | (simp; done) | (simp; omega) | (simp; assumption)) ?_) | refine g_cond_f rfl (by first | rfl | (simp; done) | (simp; omega) | (simp; assumption)) ?_
    repeat (first | refine g_endt ?_ | refine g_end ?_ | refine g_then ?_ | refine g_in_normal ?_ | refine g_then_ret ?_ | refine g_in_ret ?_ | refine g_then_exit ?_ | refine g_in_exit rfl ?_ | refine g_in_exit_ne (by decide) ?_ | refine g_seq ?_ | refine g_region ?_ | refine g_block ?_ | refine g_ret ?_ | refine g_return_n ?_ | refine g_exit ?_ | refine g_skip ?_)
    refine o_assign ?_
    first | refine g_endt ?_ | refine g_end ?_
    repeat (first | refine g_endt ?_ | refine g_end ?_ | refine g_then ?_ | refine g_in_normal ?_ | refine g_then_ret ?_ | refine g_in_ret ?_ | refine g_then_exit ?_ | refine g_in_exit rfl ?_ | refine g_in_exit_ne (by decide) ?_ | refine g_seq ?_ | refine g_region ?_ | refine g_block ?_ | refine g_ret ?_ | refine g_return_n ?_ | refine g_exit ?_ | refine g_skip ?_)
    refine g_loop (σ := {i : Nat // i ≤ s.size ∧ ∀ j, j < i → partN (byteN s j) = true}) (S := fun i => [(0, .string s), (3, .int .i64 (i.1 : Int))]) (H := fun _ => []) (μ := fun i => s.size - i.1)
      (s0 := ⟨0, Nat.zero_le _, fun j hj => absurd hj (Nat.not_lt_zero j)⟩) (Sat.mem ⟨rfl, rfl, trivial⟩) ?_
    rintro ⟨i, hi, hp⟩ ρ2
    dsimp only at hi hp ⊢
    repeat (first | refine g_endt ?_ | refine g_end ?_ | refine g_then ?_ | refine g_in_normal ?_ | refine g_then_ret ?_ | refine g_in_ret ?_ | refine g_then_exit ?_ | refine g_in_exit rfl ?_ | refine g_in_exit_ne (by decide) ?_ | refine g_seq ?_ | refine g_region ?_ | refine g_block ?_ | refine g_ret ?_ | refine g_return_n ?_ | refine g_exit ?_ | refine g_skip ?_)
    refine o_move ?_
    refine o_move ?_
    refine o_slen rfl rfl (by kernel_rfl) ?_
    refine o_lss rfl rfl ?_
    first | refine g_endt ?_ | refine g_end ?_
    by_cases h : i < s.size
    · first | refine g_seq (g_cond_t rfl (by first | rfl | (simp; done) | (simp; omega) | (simp; assumption)) ?_) | refine g_cond_t rfl (by first | rfl | (simp; done) | (simp; omega) | (simp; assumption)) ?_
      repeat (first | refine g_endt ?_ | refine g_end ?_ | refine g_then ?_ | refine g_in_normal ?_ | refine g_then_ret ?_ | refine g_in_ret ?_ | refine g_then_exit ?_ | refine g_in_exit rfl ?_ | refine g_in_exit_ne (by decide) ?_ | refine g_seq ?_ | refine g_region ?_ | refine g_block ?_ | refine g_ret ?_ | refine g_return_n ?_ | refine g_exit ?_ | refine g_skip ?_)
      refine o_move ?_
      refine o_move ?_
      refine o_sindex (i := i) rfl rfl rfl h (by kernel_rfl) ?_
      refine o_call (Part_spec (byteN s i)) rfl rfl ?_
      rintro _ _ ⟨rfl, rfl⟩
      refine o_not rfl ?_
      first | refine g_endt ?_ | refine g_end ?_
      cases hc : partN (byteN s i) with
      | false =>
        first | refine g_seq (g_cond_t rfl (by first | rfl | (simp; done) | (simp; omega) | (simp; assumption)) ?_) | refine g_cond_t rfl (by first | rfl | (simp; done) | (simp; omega) | (simp; assumption)) ?_
        repeat (first | refine g_endt ?_ | refine g_end ?_ | refine g_then ?_ | refine g_in_normal ?_ | refine g_then_ret ?_ | refine g_in_ret ?_ | refine g_then_exit ?_ | refine g_in_exit rfl ?_ | refine g_in_exit_ne (by decide) ?_ | refine g_seq ?_ | refine g_region ?_ | refine g_block ?_ | refine g_ret ?_ | refine g_return_n ?_ | refine g_exit ?_ | refine g_skip ?_)
        refine o_assign ?_
        first | refine g_endt ?_ | refine g_end ?_
        repeat (first | refine g_endt ?_ | refine g_end ?_ | refine g_then ?_ | refine g_in_normal ?_ | refine g_then_ret ?_ | refine g_in_ret ?_ | refine g_then_exit ?_ | refine g_in_exit rfl ?_ | refine g_in_exit_ne (by decide) ?_ | refine g_seq ?_ | refine g_region ?_ | refine g_block ?_ | refine g_ret ?_ | refine g_return_n ?_ | refine g_exit ?_ | refine g_skip ?_)
        exact ret1 (K := []) rfl (resT (v := .bool false) rfl) ⟨by rw [wordS_head, range_not h hc, Bool.and_false], rfl⟩
      | true =>
        first | refine g_seq (g_cond_f rfl (by first | rfl | (simp; done) | (simp; omega) | (simp; assumption)) ?_) | refine g_cond_f rfl (by first | rfl | (simp; done) | (simp; omega) | (simp; assumption)) ?_
        repeat (first | refine g_endt ?_ | refine g_end ?_ | refine g_then ?_ | refine g_in_normal ?_ | refine g_then_ret ?_ | refine g_in_ret ?_ | refine g_then_exit ?_ | refine g_in_exit rfl ?_ | refine g_in_exit_ne (by decide) ?_ | refine g_seq ?_ | refine g_region ?_ | refine g_block ?_ | refine g_ret ?_ | refine g_return_n ?_ | refine g_exit ?_ | refine g_skip ?_)
        refine o_move ?_
        refine o_add (c := ((i + 1 : Nat) : Int)) rfl rfl (by omega) (by omega) (by omega) ?_
        refine o_assign ?_
        first | refine g_endt ?_ | refine g_end ?_
        repeat (first | refine g_endt ?_ | refine g_end ?_ | refine g_then ?_ | refine g_in_normal ?_ | refine g_then_ret ?_ | refine g_in_ret ?_ | refine g_then_exit ?_ | refine g_in_exit rfl ?_ | refine g_in_exit_ne (by decide) ?_ | refine g_seq ?_ | refine g_region ?_ | refine g_block ?_ | refine g_ret ?_ | refine g_return_n ?_ | refine g_exit ?_ | refine g_skip ?_)
        have hn : ∀ j, j < i + 1 → partN (byteN s j) = true := fun j hj => by
          by_cases e : j = i
          · subst e; exact hc
          · exact hp j (by omega)
        exact g_meets (⟨i + 1, h, hn⟩) (by first | exact trivial | (dsimp only; omega)) (Sat.mem (by repeat (first | exact trivial | refine And.intro rfl ?_)))
    · first | refine g_seq (g_cond_f rfl (by simp; omega) ?_) | refine g_cond_f rfl (by simp; omega) ?_
      repeat (first | refine g_endt ?_ | refine g_end ?_ | refine g_then ?_ | refine g_in_normal ?_ | refine g_then_ret ?_ | refine g_in_ret ?_ | refine g_then_exit ?_ | refine g_in_exit rfl ?_ | refine g_in_exit_ne (by decide) ?_ | refine g_seq ?_ | refine g_region ?_ | refine g_block ?_ | refine g_ret ?_ | refine g_return_n ?_ | refine g_exit ?_ | refine g_skip ?_)
      refine o_assign ?_
      first | refine g_endt ?_ | refine g_end ?_
      repeat (first | refine g_endt ?_ | refine g_end ?_ | refine g_then ?_ | refine g_in_normal ?_ | refine g_then_ret ?_ | refine g_in_ret ?_ | refine g_then_exit ?_ | refine g_in_exit rfl ?_ | refine g_in_exit_ne (by decide) ?_ | refine g_seq ?_ | refine g_region ?_ | refine g_block ?_ | refine g_ret ?_ | refine g_return_n ?_ | refine g_exit ?_ | refine g_skip ?_)
      exact ret1 (K := []) rfl (resT rfl) ⟨by rw [wordS_head, hh, range_all fun j hj => hp j (by omega)]; rfl, rfl⟩
end Go.Proofs.Ytfakoemkapankaa
/- Symbols, elements: which are right. -/
namespace Go.Proofs.Ytfakoemkapankaa
open Go Go.Sl
attribute [local irreducible] Code.wpIn roundPost bodyPostM runL Ret Meets Begin

theorem text_empty (s : ByteArray) : (s.toList == ByteArray.empty.toList) = decide (s = ByteArray.empty) := by
  rw [Bool.eq_iff_iff, beq_iff_eq, decide_eq_true_eq, toList_inj]
theorem Valid_spec (s : SymD) (hb : s.text.size ≤ 4611686018427387904) : Ctr Try.prog 116 [s.val] [] (fun v M => v = .bool (validS s) ∧ M = []) := by
  refine spec_of Try.func116 rfl Try.ntmps116 rfl fun w0 F => ?_
  -- ponder/sym.Valid
  repeat (first | refine g_endt ?_ | refine g_end ?_ | refine g_then ?_ | refine g_in_normal ?_ | refine g_then_ret ?_ | refine g_in_ret ?_ | refine g_then_exit ?_ | refine g_in_exit rfl ?_ | refine g_in_exit_ne (by decide) ?_ | refine g_seq ?_ | refine g_region ?_ | refine g_block ?_ | refine g_ret ?_ | refine g_return_n ?_ | refine g_exit ?_ | refine g_skip ?_)
  refine o_boxc s.val.cells rfl rfl fun q => ?_
  refine o_assign ?_
  first | refine g_endt ?_ | refine g_end ?_
  repeat (first | refine g_endt ?_ | refine g_end ?_ | refine g_then ?_ | refine g_in_normal ?_ | refine g_then_ret ?_ | refine g_in_ret ?_ | refine g_then_exit ?_ | refine g_in_exit rfl ?_ | refine g_in_exit_ne (by decide) ?_ | refine g_seq ?_ | refine g_region ?_ | refine g_block ?_ | refine g_ret ?_ | refine g_return_n ?_ | refine g_exit ?_ | refine g_skip ?_)
  first | refine o_field rfl ?_ | refine o_fieldR rfl (by omega) ?_
  refine o_load1 (v := .int .i64 s.kind) rfl rfl ?_
  first | refine g_endt ?_ | refine g_end ?_
  repeat (first | refine g_endt ?_ | refine g_end ?_ | refine g_then ?_ | refine g_in_normal ?_ | refine g_then_ret ?_ | refine g_in_ret ?_ | refine g_then_exit ?_ | refine g_in_exit rfl ?_ | refine g_in_exit_ne (by decide) ?_ | refine g_seq ?_ | refine g_region ?_ | refine g_block ?_ | refine g_ret ?_ | refine g_return_n ?_ | refine g_exit ?_ | refine g_skip ?_)
  refine o_eql rfl rfl ?_
  refine o_assign ?_
  first | refine g_endt ?_ | refine g_end ?_
  by_cases k1 : s.kind = 1
  · first | refine g_seq (g_cond_t rfl (by simpa using k1) ?_) | refine g_cond_t rfl (by simpa using k1) ?_
    repeat (first | refine g_endt ?_ | refine g_end ?_ | refine g_then ?_ | refine g_in_normal ?_ | refine g_then_ret ?_ | refine g_in_ret ?_ | refine g_then_exit ?_ | refine g_in_exit rfl ?_ | refine g_in_exit_ne (by decide) ?_ | refine g_seq ?_ | refine g_region ?_ | refine g_block ?_ | refine g_ret ?_ | refine g_return_n ?_ | refine g_exit ?_ | refine g_skip ?_)
    first | refine o_field rfl ?_ | refine o_fieldR rfl (by omega) ?_
    refine o_load1 (v := .string s.text) rfl rfl ?_
    refine o_slen rfl rfl (by kernel_rfl) ?_
    refine o_eql rfl rfl ?_
    refine o_moveB rfl (fun h4 => ?_) (fun h4 => ?_)
    · first | refine o_want rfl rfl rfl rfl rfl <| o_field rfl ?_ | refine o_want rfl rfl rfl rfl rfl <| o_fieldR rfl (by omega) ?_
      refine o_want rfl rfl rfl rfl rfl <| o_load1 (v := .string s.text) rfl rfl ?_
      refine o_want rfl rfl rfl rfl rfl <| o_sindex (i := 0) rfl rfl rfl (by have := beq_iff_eq.1 h4; omega) (by kernel_rfl) ?_
      refine o_want rfl rfl rfl rfl rfl <| o_call (great_spec (byteN s.text 0)) rfl rfl ?_
      rintro _ _ ⟨rfl, rfl⟩
      refine o_pick_t rfl rfl ?_
      refine o_moveB rfl (fun h10 => ?_) (fun h10 => ?_)
      · first | refine o_want rfl rfl rfl rfl rfl <| o_field rfl ?_ | refine o_want rfl rfl rfl rfl rfl <| o_fieldR rfl (by omega) ?_
        refine o_want rfl rfl rfl rfl rfl <| o_load1 (v := .int .i64 s.n) rfl rfl ?_
        refine o_want rfl rfl rfl rfl rfl <| o_geq rfl rfl ?_
        refine o_pick_t rfl rfl ?_
        refine o_moveB rfl (fun h15 => ?_) (fun h15 => ?_)
        · first | refine o_want rfl rfl rfl rfl rfl <| o_field rfl ?_ | refine o_want rfl rfl rfl rfl rfl <| o_fieldR rfl (by omega) ?_
          refine o_want rfl rfl rfl rfl rfl <| o_load1 (v := .int .i64 s.n) rfl rfl ?_
          refine o_want rfl rfl rfl rfl rfl <| o_leq rfl rfl ?_
          refine o_pick_t rfl rfl ?_
          refine o_assign ?_
          first | refine g_endt ?_ | refine g_end ?_
          repeat (first | refine g_endt ?_ | refine g_end ?_ | refine g_then ?_ | refine g_in_normal ?_ | refine g_then_ret ?_ | refine g_in_ret ?_ | refine g_then_exit ?_ | refine g_in_exit rfl ?_ | refine g_in_exit_ne (by decide) ?_ | refine g_seq ?_ | refine g_region ?_ | refine g_block ?_ | refine g_ret ?_ | refine g_return_n ?_ | refine g_exit ?_ | refine g_skip ?_)
          refine ret1 rfl (resT rfl) ⟨congrArg Value.bool ?_, rfl⟩
          ((try (simp only [decide_eq_true_eq, decide_eq_false_iff_not, ge_iff_le, gt_iff_lt, beq_iff_eq, beq_eq_false_iff_ne, ne_eq] at *)); unfold validS; rw [if_pos k1]; generalize s.text.size = m at *; cases hgr : greatN (byteN s.text 0) <;> (rw [Bool.eq_iff_iff]; simp_all <;> omega))
        · refine o_unwanted rfl rfl rfl rfl rfl ?_
          refine o_unwanted rfl rfl rfl rfl rfl ?_
          refine o_unwanted rfl rfl rfl rfl rfl ?_
          refine o_pick_f rfl rfl ?_
          refine o_assign ?_
          first | refine g_endt ?_ | refine g_end ?_
          repeat (first | refine g_endt ?_ | refine g_end ?_ | refine g_then ?_ | refine g_in_normal ?_ | refine g_then_ret ?_ | refine g_in_ret ?_ | refine g_then_exit ?_ | refine g_in_exit rfl ?_ | refine g_in_exit_ne (by decide) ?_ | refine g_seq ?_ | refine g_region ?_ | refine g_block ?_ | refine g_ret ?_ | refine g_return_n ?_ | refine g_exit ?_ | refine g_skip ?_)
          refine ret1 rfl (resT rfl) ⟨congrArg Value.bool ?_, rfl⟩
          ((try (simp only [decide_eq_true_eq, decide_eq_false_iff_not, ge_iff_le, gt_iff_lt, beq_iff_eq, beq_eq_false_iff_ne, ne_eq] at *)); unfold validS; rw [if_pos k1]; generalize s.text.size = m at *; cases hgr : greatN (byteN s.text 0) <;> (rw [Bool.eq_iff_iff]; simp_all <;> omega))
      · refine o_unwanted rfl rfl rfl rfl rfl ?_
        refine o_unwanted rfl rfl rfl rfl rfl ?_
        refine o_unwanted rfl rfl rfl rfl rfl ?_
        refine o_pick_f rfl rfl ?_
        refine o_move ?_
        refine o_unwanted rfl rfl rfl rfl rfl ?_
        refine o_unwanted rfl rfl rfl rfl rfl ?_
        refine o_unwanted rfl rfl rfl rfl rfl ?_
        refine o_pick_f rfl rfl ?_
        refine o_assign ?_
        first | refine g_endt ?_ | refine g_end ?_
        repeat (first | refine g_endt ?_ | refine g_end ?_ | refine g_then ?_ | refine g_in_normal ?_ | refine g_then_ret ?_ | refine g_in_ret ?_ | refine g_then_exit ?_ | refine g_in_exit rfl ?_ | refine g_in_exit_ne (by decide) ?_ | refine g_seq ?_ | refine g_region ?_ | refine g_block ?_ | refine g_ret ?_ | refine g_return_n ?_ | refine g_exit ?_ | refine g_skip ?_)
        refine ret1 rfl (resT rfl) ⟨congrArg Value.bool ?_, rfl⟩
        ((try (simp only [decide_eq_true_eq, decide_eq_false_iff_not, ge_iff_le, gt_iff_lt, beq_iff_eq, beq_eq_false_iff_ne, ne_eq] at *)); unfold validS; rw [if_pos k1]; generalize s.text.size = m at *; cases hgr : greatN (byteN s.text 0) <;> (rw [Bool.eq_iff_iff]; simp_all <;> omega))
    · refine o_unwanted rfl rfl rfl rfl rfl ?_
      refine o_unwanted rfl rfl rfl rfl rfl ?_
      refine o_unwanted rfl rfl rfl rfl rfl ?_
      refine o_unwanted rfl rfl rfl rfl rfl ?_
      refine o_pick_f rfl rfl ?_
      refine o_move ?_
      refine o_unwanted rfl rfl rfl rfl rfl ?_
      refine o_unwanted rfl rfl rfl rfl rfl ?_
      refine o_unwanted rfl rfl rfl rfl rfl ?_
      refine o_pick_f rfl rfl ?_
      refine o_move ?_
      refine o_unwanted rfl rfl rfl rfl rfl ?_
      refine o_unwanted rfl rfl rfl rfl rfl ?_
      refine o_unwanted rfl rfl rfl rfl rfl ?_
      refine o_pick_f rfl rfl ?_
      refine o_assign ?_
      first | refine g_endt ?_ | refine g_end ?_
      repeat (first | refine g_endt ?_ | refine g_end ?_ | refine g_then ?_ | refine g_in_normal ?_ | refine g_then_ret ?_ | refine g_in_ret ?_ | refine g_then_exit ?_ | refine g_in_exit rfl ?_ | refine g_in_exit_ne (by decide) ?_ | refine g_seq ?_ | refine g_region ?_ | refine g_block ?_ | refine g_ret ?_ | refine g_return_n ?_ | refine g_exit ?_ | refine g_skip ?_)
      refine ret1 rfl (resT rfl) ⟨congrArg Value.bool ?_, rfl⟩
      ((try (simp only [decide_eq_true_eq, decide_eq_false_iff_not, ge_iff_le, gt_iff_lt, beq_iff_eq, beq_eq_false_iff_ne, ne_eq] at *)); unfold validS; rw [if_pos k1]; generalize s.text.size = m at *; cases hgr : greatN (byteN s.text 0) <;> (rw [Bool.eq_iff_iff]; simp_all <;> omega))
  first | refine g_seq (g_cond_f rfl (by simpa using k1) ?_) | refine g_cond_f rfl (by simpa using k1) ?_
  repeat (first | refine g_endt ?_ | refine g_end ?_ | refine g_then ?_ | refine g_in_normal ?_ | refine g_then_ret ?_ | refine g_in_ret ?_ | refine g_then_exit ?_ | refine g_in_exit rfl ?_ | refine g_in_exit_ne (by decide) ?_ | refine g_seq ?_ | refine g_region ?_ | refine g_block ?_ | refine g_ret ?_ | refine g_return_n ?_ | refine g_exit ?_ | refine g_skip ?_)
  refine o_eql rfl rfl ?_
  refine o_assign ?_
  first | refine g_endt ?_ | refine g_end ?_
  by_cases k2 : s.kind = 2
  · first | refine g_seq (g_cond_t rfl (by simpa using k2) ?_) | refine g_cond_t rfl (by simpa using k2) ?_
    repeat (first | refine g_endt ?_ | refine g_end ?_ | refine g_then ?_ | refine g_in_normal ?_ | refine g_then_ret ?_ | refine g_in_ret ?_ | refine g_then_exit ?_ | refine g_in_exit rfl ?_ | refine g_in_exit_ne (by decide) ?_ | refine g_seq ?_ | refine g_region ?_ | refine g_block ?_ | refine g_ret ?_ | refine g_return_n ?_ | refine g_exit ?_ | refine g_skip ?_)
    first | refine o_field rfl ?_ | refine o_fieldR rfl (by omega) ?_
    refine o_load1 (v := .string s.text) rfl rfl ?_
    refine o_seql rfl rfl ?_
    refine o_moveB rfl (fun h3 => ?_) (fun h3 => ?_)
    · first | refine o_want rfl rfl rfl rfl rfl <| o_field rfl ?_ | refine o_want rfl rfl rfl rfl rfl <| o_fieldR rfl (by omega) ?_
      refine o_want rfl rfl rfl rfl rfl <| o_load1 (v := .int .i64 s.n) rfl rfl ?_
      refine o_want rfl rfl rfl rfl rfl <| o_geq rfl rfl ?_
      refine o_pick_t rfl rfl ?_
      refine o_moveB rfl (fun h8 => ?_) (fun h8 => ?_)
      · first | refine o_want rfl rfl rfl rfl rfl <| o_field rfl ?_ | refine o_want rfl rfl rfl rfl rfl <| o_fieldR rfl (by omega) ?_
        refine o_want rfl rfl rfl rfl rfl <| o_load1 (v := .int .i64 s.n) rfl rfl ?_
        refine o_want rfl rfl rfl rfl rfl <| o_leq rfl rfl ?_
        refine o_pick_t rfl rfl ?_
        refine o_assign ?_
        first | refine g_endt ?_ | refine g_end ?_
        repeat (first | refine g_endt ?_ | refine g_end ?_ | refine g_then ?_ | refine g_in_normal ?_ | refine g_then_ret ?_ | refine g_in_ret ?_ | refine g_then_exit ?_ | refine g_in_exit rfl ?_ | refine g_in_exit_ne (by decide) ?_ | refine g_seq ?_ | refine g_region ?_ | refine g_block ?_ | refine g_ret ?_ | refine g_return_n ?_ | refine g_exit ?_ | refine g_skip ?_)
        refine ret1 rfl (resT rfl) ⟨congrArg Value.bool ?_, rfl⟩
        (unfold validS; rw [if_neg k1, if_pos k2, show (decide (s.text = ByteArray.empty)) = (s.text.toList == ({ data := #[] } : ByteArray).toList) from (text_empty s.text).symm]; generalize (s.text.toList == ({ data := #[] } : ByteArray).toList) = tb at *; (try (simp only [decide_eq_true_eq, decide_eq_false_iff_not, ge_iff_le, gt_iff_lt] at *)); cases tb <;> (rw [Bool.eq_iff_iff]; simp_all <;> omega))
      · refine o_unwanted rfl rfl rfl rfl rfl ?_
        refine o_unwanted rfl rfl rfl rfl rfl ?_
        refine o_unwanted rfl rfl rfl rfl rfl ?_
        refine o_pick_f rfl rfl ?_
        refine o_assign ?_
        first | refine g_endt ?_ | refine g_end ?_
        repeat (first | refine g_endt ?_ | refine g_end ?_ | refine g_then ?_ | refine g_in_normal ?_ | refine g_then_ret ?_ | refine g_in_ret ?_ | refine g_then_exit ?_ | refine g_in_exit rfl ?_ | refine g_in_exit_ne (by decide) ?_ | refine g_seq ?_ | refine g_region ?_ | refine g_block ?_ | refine g_ret ?_ | refine g_return_n ?_ | refine g_exit ?_ | refine g_skip ?_)
        refine ret1 rfl (resT rfl) ⟨congrArg Value.bool ?_, rfl⟩
        (unfold validS; rw [if_neg k1, if_pos k2, show (decide (s.text = ByteArray.empty)) = (s.text.toList == ({ data := #[] } : ByteArray).toList) from (text_empty s.text).symm]; generalize (s.text.toList == ({ data := #[] } : ByteArray).toList) = tb at *; (try (simp only [decide_eq_true_eq, decide_eq_false_iff_not, ge_iff_le, gt_iff_lt] at *)); cases tb <;> (rw [Bool.eq_iff_iff]; simp_all <;> omega))
    · refine o_unwanted rfl rfl rfl rfl rfl ?_
      refine o_unwanted rfl rfl rfl rfl rfl ?_
      refine o_unwanted rfl rfl rfl rfl rfl ?_
      refine o_pick_f rfl rfl ?_
      refine o_move ?_
      refine o_unwanted rfl rfl rfl rfl rfl ?_
      refine o_unwanted rfl rfl rfl rfl rfl ?_
      refine o_unwanted rfl rfl rfl rfl rfl ?_
      refine o_pick_f rfl rfl ?_
      refine o_assign ?_
      first | refine g_endt ?_ | refine g_end ?_
      repeat (first | refine g_endt ?_ | refine g_end ?_ | refine g_then ?_ | refine g_in_normal ?_ | refine g_then_ret ?_ | refine g_in_ret ?_ | refine g_then_exit ?_ | refine g_in_exit rfl ?_ | refine g_in_exit_ne (by decide) ?_ | refine g_seq ?_ | refine g_region ?_ | refine g_block ?_ | refine g_ret ?_ | refine g_return_n ?_ | refine g_exit ?_ | refine g_skip ?_)
      refine ret1 rfl (resT rfl) ⟨congrArg Value.bool ?_, rfl⟩
      (unfold validS; rw [if_neg k1, if_pos k2, show (decide (s.text = ByteArray.empty)) = (s.text.toList == ({ data := #[] } : ByteArray).toList) from (text_empty s.text).symm]; generalize (s.text.toList == ({ data := #[] } : ByteArray).toList) = tb at *; (try (simp only [decide_eq_true_eq, decide_eq_false_iff_not, ge_iff_le, gt_iff_lt] at *)); cases tb <;> (rw [Bool.eq_iff_iff]; simp_all <;> omega))
  first | refine g_seq (g_cond_f rfl (by simpa using k2) ?_) | refine g_cond_f rfl (by simpa using k2) ?_
  repeat (first | refine g_endt ?_ | refine g_end ?_ | refine g_then ?_ | refine g_in_normal ?_ | refine g_then_ret ?_ | refine g_in_ret ?_ | refine g_then_exit ?_ | refine g_in_exit rfl ?_ | refine g_in_exit_ne (by decide) ?_ | refine g_seq ?_ | refine g_region ?_ | refine g_block ?_ | refine g_ret ?_ | refine g_return_n ?_ | refine g_exit ?_ | refine g_skip ?_)
  refine o_eql rfl rfl ?_
  refine o_assign ?_
  first | refine g_endt ?_ | refine g_end ?_
  by_cases k3 : s.kind = 3
  · first | refine g_seq (g_cond_t rfl (by simpa using k3) ?_) | refine g_cond_t rfl (by simpa using k3) ?_
    repeat (first | refine g_endt ?_ | refine g_end ?_ | refine g_then ?_ | refine g_in_normal ?_ | refine g_then_ret ?_ | refine g_in_ret ?_ | refine g_then_exit ?_ | refine g_in_exit rfl ?_ | refine g_in_exit_ne (by decide) ?_ | refine g_seq ?_ | refine g_region ?_ | refine g_block ?_ | refine g_ret ?_ | refine g_return_n ?_ | refine g_exit ?_ | refine g_skip ?_)
    first | refine o_field rfl ?_ | refine o_fieldR rfl (by omega) ?_
    refine o_load1 (v := .int .i64 s.n) rfl rfl ?_
    refine o_eql rfl rfl ?_
    refine o_moveB rfl (fun h3 => ?_) (fun h3 => ?_)
    · first | refine o_want rfl rfl rfl rfl rfl <| o_field rfl ?_ | refine o_want rfl rfl rfl rfl rfl <| o_fieldR rfl (by omega) ?_
      refine o_want rfl rfl rfl rfl rfl <| o_load1 (v := .string s.text) rfl rfl ?_
      refine o_want rfl rfl rfl rfl rfl <| o_call (Word_spec s.text hb) rfl rfl ?_
      rintro _ _ ⟨rfl, rfl⟩
      refine o_pick_t rfl rfl ?_
      refine o_assign ?_
      first | refine g_endt ?_ | refine g_end ?_
      repeat (first | refine g_endt ?_ | refine g_end ?_ | refine g_then ?_ | refine g_in_normal ?_ | refine g_then_ret ?_ | refine g_in_ret ?_ | refine g_then_exit ?_ | refine g_in_exit rfl ?_ | refine g_in_exit_ne (by decide) ?_ | refine g_seq ?_ | refine g_region ?_ | refine g_block ?_ | refine g_ret ?_ | refine g_return_n ?_ | refine g_exit ?_ | refine g_skip ?_)
      refine ret1 rfl (resT rfl) ⟨congrArg Value.bool ?_, rfl⟩
      (unfold validS; rw [if_neg k1, if_neg k2, if_pos k3]; simp only [beq_iff_eq, beq_eq_false_iff_ne, ne_eq] at *; simp_all)
    · refine o_unwanted rfl rfl rfl rfl rfl ?_
      refine o_unwanted rfl rfl rfl rfl rfl ?_
      refine o_unwanted rfl rfl rfl rfl rfl ?_
      refine o_pick_f rfl rfl ?_
      refine o_assign ?_
      first | refine g_endt ?_ | refine g_end ?_
      repeat (first | refine g_endt ?_ | refine g_end ?_ | refine g_then ?_ | refine g_in_normal ?_ | refine g_then_ret ?_ | refine g_in_ret ?_ | refine g_then_exit ?_ | refine g_in_exit rfl ?_ | refine g_in_exit_ne (by decide) ?_ | refine g_seq ?_ | refine g_region ?_ | refine g_block ?_ | refine g_ret ?_ | refine g_return_n ?_ | refine g_exit ?_ | refine g_skip ?_)
      refine ret1 rfl (resT rfl) ⟨congrArg Value.bool ?_, rfl⟩
      (unfold validS; rw [if_neg k1, if_neg k2, if_pos k3]; simp only [beq_iff_eq, beq_eq_false_iff_ne, ne_eq] at *; simp_all)
  first | refine g_seq (g_cond_f rfl (by simpa using k3) ?_) | refine g_cond_f rfl (by simpa using k3) ?_
  repeat (first | refine g_endt ?_ | refine g_end ?_ | refine g_then ?_ | refine g_in_normal ?_ | refine g_then_ret ?_ | refine g_in_ret ?_ | refine g_then_exit ?_ | refine g_in_exit rfl ?_ | refine g_in_exit_ne (by decide) ?_ | refine g_seq ?_ | refine g_region ?_ | refine g_block ?_ | refine g_ret ?_ | refine g_return_n ?_ | refine g_exit ?_ | refine g_skip ?_)
  refine o_assign ?_
  first | refine g_endt ?_ | refine g_end ?_
  repeat (first | refine g_endt ?_ | refine g_end ?_ | refine g_then ?_ | refine g_in_normal ?_ | refine g_then_ret ?_ | refine g_in_ret ?_ | refine g_then_exit ?_ | refine g_in_exit rfl ?_ | refine g_in_exit_ne (by decide) ?_ | refine g_seq ?_ | refine g_region ?_ | refine g_block ?_ | refine g_ret ?_ | refine g_return_n ?_ | refine g_exit ?_ | refine g_skip ?_)
  exact ret1 rfl (resT (v := .bool false) rfl) ⟨by unfold validS; rw [if_neg k1, if_neg k2, if_neg k3], rfl⟩
theorem Valid04_spec (s : SymD) (hb : s.text.size ≤ 4611686018427387904) : Ctr Try.prog 49 [s.val] [] (fun v M => v = .bool (validS s) ∧ M = []) := by
  refine spec_of Try.func49 rfl Try.ntmps49 rfl fun w0 F => ?_
  -- ponder/ponderref04.Valid
  repeat (first | refine g_endt ?_ | refine g_end ?_ | refine g_then ?_ | refine g_in_normal ?_ | refine g_then_ret ?_ | refine g_in_ret ?_ | refine g_then_exit ?_ | refine g_in_exit rfl ?_ | refine g_in_exit_ne (by decide) ?_ | refine g_seq ?_ | refine g_region ?_ | refine g_block ?_ | refine g_ret ?_ | refine g_return_n ?_ | refine g_exit ?_ | refine g_skip ?_)
  refine o_boxc s.val.cells rfl rfl fun q => ?_
  refine o_assign ?_
  first | refine g_endt ?_ | refine g_end ?_
  repeat (first | refine g_endt ?_ | refine g_end ?_ | refine g_then ?_ | refine g_in_normal ?_ | refine g_then_ret ?_ | refine g_in_ret ?_ | refine g_then_exit ?_ | refine g_in_exit rfl ?_ | refine g_in_exit_ne (by decide) ?_ | refine g_seq ?_ | refine g_region ?_ | refine g_block ?_ | refine g_ret ?_ | refine g_return_n ?_ | refine g_exit ?_ | refine g_skip ?_)
  first | refine o_field rfl ?_ | refine o_fieldR rfl (by omega) ?_
  refine o_load1 (v := .int .i64 s.kind) rfl rfl ?_
  first | refine g_endt ?_ | refine g_end ?_
  repeat (first | refine g_endt ?_ | refine g_end ?_ | refine g_then ?_ | refine g_in_normal ?_ | refine g_then_ret ?_ | refine g_in_ret ?_ | refine g_then_exit ?_ | refine g_in_exit rfl ?_ | refine g_in_exit_ne (by decide) ?_ | refine g_seq ?_ | refine g_region ?_ | refine g_block ?_ | refine g_ret ?_ | refine g_return_n ?_ | refine g_exit ?_ | refine g_skip ?_)
  refine o_eql rfl rfl ?_
  refine o_assign ?_
  first | refine g_endt ?_ | refine g_end ?_
  by_cases k1 : s.kind = 1
  · first | refine g_seq (g_cond_t rfl (by simpa using k1) ?_) | refine g_cond_t rfl (by simpa using k1) ?_
    repeat (first | refine g_endt ?_ | refine g_end ?_ | refine g_then ?_ | refine g_in_normal ?_ | refine g_then_ret ?_ | refine g_in_ret ?_ | refine g_then_exit ?_ | refine g_in_exit rfl ?_ | refine g_in_exit_ne (by decide) ?_ | refine g_seq ?_ | refine g_region ?_ | refine g_block ?_ | refine g_ret ?_ | refine g_return_n ?_ | refine g_exit ?_ | refine g_skip ?_)
    first | refine o_field rfl ?_ | refine o_fieldR rfl (by omega) ?_
    refine o_load1 (v := .string s.text) rfl rfl ?_
    refine o_slen rfl rfl (by kernel_rfl) ?_
    refine o_eql rfl rfl ?_
    refine o_moveB rfl (fun h4 => ?_) (fun h4 => ?_)
    · first | refine o_want rfl rfl rfl rfl rfl <| o_field rfl ?_ | refine o_want rfl rfl rfl rfl rfl <| o_fieldR rfl (by omega) ?_
      refine o_want rfl rfl rfl rfl rfl <| o_load1 (v := .string s.text) rfl rfl ?_
      refine o_want rfl rfl rfl rfl rfl <| o_sindex (i := 0) rfl rfl rfl (by have := beq_iff_eq.1 h4; omega) (by kernel_rfl) ?_
      refine o_want rfl rfl rfl rfl rfl <| o_geq rfl rfl ?_
      refine o_pick_t rfl rfl ?_
      refine o_moveB rfl (fun h10 => ?_) (fun h10 => ?_)
      · first | refine o_want rfl rfl rfl rfl rfl <| o_field rfl ?_ | refine o_want rfl rfl rfl rfl rfl <| o_fieldR rfl (by omega) ?_
        refine o_want rfl rfl rfl rfl rfl <| o_load1 (v := .string s.text) rfl rfl ?_
        refine o_want rfl rfl rfl rfl rfl <| o_sindex (i := 0) rfl rfl rfl (by have := beq_iff_eq.1 h4; omega) (by kernel_rfl) ?_
        refine o_want rfl rfl rfl rfl rfl <| o_leq rfl rfl ?_
        refine o_pick_t rfl rfl ?_
        refine o_moveB rfl (fun h16 => ?_) (fun h16 => ?_)
        · first | refine o_want rfl rfl rfl rfl rfl <| o_field rfl ?_ | refine o_want rfl rfl rfl rfl rfl <| o_fieldR rfl (by omega) ?_
          refine o_want rfl rfl rfl rfl rfl <| o_load1 (v := .int .i64 s.n) rfl rfl ?_
          refine o_want rfl rfl rfl rfl rfl <| o_geq rfl rfl ?_
          refine o_pick_t rfl rfl ?_
          refine o_moveB rfl (fun h21 => ?_) (fun h21 => ?_)
          · first | refine o_want rfl rfl rfl rfl rfl <| o_field rfl ?_ | refine o_want rfl rfl rfl rfl rfl <| o_fieldR rfl (by omega) ?_
            refine o_want rfl rfl rfl rfl rfl <| o_load1 (v := .int .i64 s.n) rfl rfl ?_
            refine o_want rfl rfl rfl rfl rfl <| o_leq rfl rfl ?_
            refine o_pick_t rfl rfl ?_
            refine o_assign ?_
            first | refine g_endt ?_ | refine g_end ?_
            repeat (first | refine g_endt ?_ | refine g_end ?_ | refine g_then ?_ | refine g_in_normal ?_ | refine g_then_ret ?_ | refine g_in_ret ?_ | refine g_then_exit ?_ | refine g_in_exit rfl ?_ | refine g_in_exit_ne (by decide) ?_ | refine g_seq ?_ | refine g_region ?_ | refine g_block ?_ | refine g_ret ?_ | refine g_return_n ?_ | refine g_exit ?_ | refine g_skip ?_)
            refine ret1 rfl (resT rfl) ⟨congrArg Value.bool ?_, rfl⟩
            ((try (simp only [decide_eq_true_eq, decide_eq_false_iff_not, ge_iff_le, gt_iff_lt, beq_iff_eq, beq_eq_false_iff_ne, ne_eq] at *)); unfold validS greatN; rw [if_pos k1]; generalize s.text.size = m at *; (rw [Bool.eq_iff_iff]; simp_all <;> omega))
          · refine o_unwanted rfl rfl rfl rfl rfl ?_
            refine o_unwanted rfl rfl rfl rfl rfl ?_
            refine o_unwanted rfl rfl rfl rfl rfl ?_
            refine o_pick_f rfl rfl ?_
            refine o_assign ?_
            first | refine g_endt ?_ | refine g_end ?_
            repeat (first | refine g_endt ?_ | refine g_end ?_ | refine g_then ?_ | refine g_in_normal ?_ | refine g_then_ret ?_ | refine g_in_ret ?_ | refine g_then_exit ?_ | refine g_in_exit rfl ?_ | refine g_in_exit_ne (by decide) ?_ | refine g_seq ?_ | refine g_region ?_ | refine g_block ?_ | refine g_ret ?_ | refine g_return_n ?_ | refine g_exit ?_ | refine g_skip ?_)
            refine ret1 rfl (resT rfl) ⟨congrArg Value.bool ?_, rfl⟩
            ((try (simp only [decide_eq_true_eq, decide_eq_false_iff_not, ge_iff_le, gt_iff_lt, beq_iff_eq, beq_eq_false_iff_ne, ne_eq] at *)); unfold validS greatN; rw [if_pos k1]; generalize s.text.size = m at *; (rw [Bool.eq_iff_iff]; simp_all <;> omega))
        · refine o_unwanted rfl rfl rfl rfl rfl ?_
          refine o_unwanted rfl rfl rfl rfl rfl ?_
          refine o_unwanted rfl rfl rfl rfl rfl ?_
          refine o_pick_f rfl rfl ?_
          refine o_move ?_
          refine o_unwanted rfl rfl rfl rfl rfl ?_
          refine o_unwanted rfl rfl rfl rfl rfl ?_
          refine o_unwanted rfl rfl rfl rfl rfl ?_
          refine o_pick_f rfl rfl ?_
          refine o_assign ?_
          first | refine g_endt ?_ | refine g_end ?_
          repeat (first | refine g_endt ?_ | refine g_end ?_ | refine g_then ?_ | refine g_in_normal ?_ | refine g_then_ret ?_ | refine g_in_ret ?_ | refine g_then_exit ?_ | refine g_in_exit rfl ?_ | refine g_in_exit_ne (by decide) ?_ | refine g_seq ?_ | refine g_region ?_ | refine g_block ?_ | refine g_ret ?_ | refine g_return_n ?_ | refine g_exit ?_ | refine g_skip ?_)
          refine ret1 rfl (resT rfl) ⟨congrArg Value.bool ?_, rfl⟩
          ((try (simp only [decide_eq_true_eq, decide_eq_false_iff_not, ge_iff_le, gt_iff_lt, beq_iff_eq, beq_eq_false_iff_ne, ne_eq] at *)); unfold validS greatN; rw [if_pos k1]; generalize s.text.size = m at *; (rw [Bool.eq_iff_iff]; simp_all <;> omega))
      · refine o_unwanted rfl rfl rfl rfl rfl ?_
        refine o_unwanted rfl rfl rfl rfl rfl ?_
        refine o_unwanted rfl rfl rfl rfl rfl ?_
        refine o_unwanted rfl rfl rfl rfl rfl ?_
        refine o_pick_f rfl rfl ?_
        refine o_move ?_
        refine o_unwanted rfl rfl rfl rfl rfl ?_
        refine o_unwanted rfl rfl rfl rfl rfl ?_
        refine o_unwanted rfl rfl rfl rfl rfl ?_
        refine o_pick_f rfl rfl ?_
        refine o_move ?_
        refine o_unwanted rfl rfl rfl rfl rfl ?_
        refine o_unwanted rfl rfl rfl rfl rfl ?_
        refine o_unwanted rfl rfl rfl rfl rfl ?_
        refine o_pick_f rfl rfl ?_
        refine o_assign ?_
        first | refine g_endt ?_ | refine g_end ?_
        repeat (first | refine g_endt ?_ | refine g_end ?_ | refine g_then ?_ | refine g_in_normal ?_ | refine g_then_ret ?_ | refine g_in_ret ?_ | refine g_then_exit ?_ | refine g_in_exit rfl ?_ | refine g_in_exit_ne (by decide) ?_ | refine g_seq ?_ | refine g_region ?_ | refine g_block ?_ | refine g_ret ?_ | refine g_return_n ?_ | refine g_exit ?_ | refine g_skip ?_)
        refine ret1 rfl (resT rfl) ⟨congrArg Value.bool ?_, rfl⟩
        ((try (simp only [decide_eq_true_eq, decide_eq_false_iff_not, ge_iff_le, gt_iff_lt, beq_iff_eq, beq_eq_false_iff_ne, ne_eq] at *)); unfold validS greatN; rw [if_pos k1]; generalize s.text.size = m at *; (rw [Bool.eq_iff_iff]; simp_all <;> omega))
    · refine o_unwanted rfl rfl rfl rfl rfl ?_
      refine o_unwanted rfl rfl rfl rfl rfl ?_
      refine o_unwanted rfl rfl rfl rfl rfl ?_
      refine o_unwanted rfl rfl rfl rfl rfl ?_
      refine o_pick_f rfl rfl ?_
      refine o_move ?_
      refine o_unwanted rfl rfl rfl rfl rfl ?_
      refine o_unwanted rfl rfl rfl rfl rfl ?_
      refine o_unwanted rfl rfl rfl rfl rfl ?_
      refine o_unwanted rfl rfl rfl rfl rfl ?_
      refine o_pick_f rfl rfl ?_
      refine o_move ?_
      refine o_unwanted rfl rfl rfl rfl rfl ?_
      refine o_unwanted rfl rfl rfl rfl rfl ?_
      refine o_unwanted rfl rfl rfl rfl rfl ?_
      refine o_pick_f rfl rfl ?_
      refine o_move ?_
      refine o_unwanted rfl rfl rfl rfl rfl ?_
      refine o_unwanted rfl rfl rfl rfl rfl ?_
      refine o_unwanted rfl rfl rfl rfl rfl ?_
      refine o_pick_f rfl rfl ?_
      refine o_assign ?_
      first | refine g_endt ?_ | refine g_end ?_
      repeat (first | refine g_endt ?_ | refine g_end ?_ | refine g_then ?_ | refine g_in_normal ?_ | refine g_then_ret ?_ | refine g_in_ret ?_ | refine g_then_exit ?_ | refine g_in_exit rfl ?_ | refine g_in_exit_ne (by decide) ?_ | refine g_seq ?_ | refine g_region ?_ | refine g_block ?_ | refine g_ret ?_ | refine g_return_n ?_ | refine g_exit ?_ | refine g_skip ?_)
      refine ret1 rfl (resT rfl) ⟨congrArg Value.bool ?_, rfl⟩
      ((try (simp only [decide_eq_true_eq, decide_eq_false_iff_not, ge_iff_le, gt_iff_lt, beq_iff_eq, beq_eq_false_iff_ne, ne_eq] at *)); unfold validS greatN; rw [if_pos k1]; generalize s.text.size = m at *; (rw [Bool.eq_iff_iff]; simp_all <;> omega))
  first | refine g_seq (g_cond_f rfl (by simpa using k1) ?_) | refine g_cond_f rfl (by simpa using k1) ?_
  repeat (first | refine g_endt ?_ | refine g_end ?_ | refine g_then ?_ | refine g_in_normal ?_ | refine g_then_ret ?_ | refine g_in_ret ?_ | refine g_then_exit ?_ | refine g_in_exit rfl ?_ | refine g_in_exit_ne (by decide) ?_ | refine g_seq ?_ | refine g_region ?_ | refine g_block ?_ | refine g_ret ?_ | refine g_return_n ?_ | refine g_exit ?_ | refine g_skip ?_)
  refine o_eql rfl rfl ?_
  refine o_assign ?_
  first | refine g_endt ?_ | refine g_end ?_
  by_cases k2 : s.kind = 2
  · first | refine g_seq (g_cond_t rfl (by simpa using k2) ?_) | refine g_cond_t rfl (by simpa using k2) ?_
    repeat (first | refine g_endt ?_ | refine g_end ?_ | refine g_then ?_ | refine g_in_normal ?_ | refine g_then_ret ?_ | refine g_in_ret ?_ | refine g_then_exit ?_ | refine g_in_exit rfl ?_ | refine g_in_exit_ne (by decide) ?_ | refine g_seq ?_ | refine g_region ?_ | refine g_block ?_ | refine g_ret ?_ | refine g_return_n ?_ | refine g_exit ?_ | refine g_skip ?_)
    first | refine o_field rfl ?_ | refine o_fieldR rfl (by omega) ?_
    refine o_load1 (v := .string s.text) rfl rfl ?_
    refine o_seql rfl rfl ?_
    refine o_moveB rfl (fun h3 => ?_) (fun h3 => ?_)
    · first | refine o_want rfl rfl rfl rfl rfl <| o_field rfl ?_ | refine o_want rfl rfl rfl rfl rfl <| o_fieldR rfl (by omega) ?_
      refine o_want rfl rfl rfl rfl rfl <| o_load1 (v := .int .i64 s.n) rfl rfl ?_
      refine o_want rfl rfl rfl rfl rfl <| o_geq rfl rfl ?_
      refine o_pick_t rfl rfl ?_
      refine o_moveB rfl (fun h8 => ?_) (fun h8 => ?_)
      · first | refine o_want rfl rfl rfl rfl rfl <| o_field rfl ?_ | refine o_want rfl rfl rfl rfl rfl <| o_fieldR rfl (by omega) ?_
        refine o_want rfl rfl rfl rfl rfl <| o_load1 (v := .int .i64 s.n) rfl rfl ?_
        refine o_want rfl rfl rfl rfl rfl <| o_leq rfl rfl ?_
        refine o_pick_t rfl rfl ?_
        refine o_assign ?_
        first | refine g_endt ?_ | refine g_end ?_
        repeat (first | refine g_endt ?_ | refine g_end ?_ | refine g_then ?_ | refine g_in_normal ?_ | refine g_then_ret ?_ | refine g_in_ret ?_ | refine g_then_exit ?_ | refine g_in_exit rfl ?_ | refine g_in_exit_ne (by decide) ?_ | refine g_seq ?_ | refine g_region ?_ | refine g_block ?_ | refine g_ret ?_ | refine g_return_n ?_ | refine g_exit ?_ | refine g_skip ?_)
        refine ret1 rfl (resT rfl) ⟨congrArg Value.bool ?_, rfl⟩
        (unfold validS; rw [if_neg k1, if_pos k2, show (decide (s.text = ByteArray.empty)) = (s.text.toList == ({ data := #[] } : ByteArray).toList) from (text_empty s.text).symm]; generalize (s.text.toList == ({ data := #[] } : ByteArray).toList) = tb at *; (try (simp only [decide_eq_true_eq, decide_eq_false_iff_not, ge_iff_le, gt_iff_lt] at *)); cases tb <;> (rw [Bool.eq_iff_iff]; simp_all <;> omega))
      · refine o_unwanted rfl rfl rfl rfl rfl ?_
        refine o_unwanted rfl rfl rfl rfl rfl ?_
        refine o_unwanted rfl rfl rfl rfl rfl ?_
        refine o_pick_f rfl rfl ?_
        refine o_assign ?_
        first | refine g_endt ?_ | refine g_end ?_
        repeat (first | refine g_endt ?_ | refine g_end ?_ | refine g_then ?_ | refine g_in_normal ?_ | refine g_then_ret ?_ | refine g_in_ret ?_ | refine g_then_exit ?_ | refine g_in_exit rfl ?_ | refine g_in_exit_ne (by decide) ?_ | refine g_seq ?_ | refine g_region ?_ | refine g_block ?_ | refine g_ret ?_ | refine g_return_n ?_ | refine g_exit ?_ | refine g_skip ?_)
        refine ret1 rfl (resT rfl) ⟨congrArg Value.bool ?_, rfl⟩
        (unfold validS; rw [if_neg k1, if_pos k2, show (decide (s.text = ByteArray.empty)) = (s.text.toList == ({ data := #[] } : ByteArray).toList) from (text_empty s.text).symm]; generalize (s.text.toList == ({ data := #[] } : ByteArray).toList) = tb at *; (try (simp only [decide_eq_true_eq, decide_eq_false_iff_not, ge_iff_le, gt_iff_lt] at *)); cases tb <;> (rw [Bool.eq_iff_iff]; simp_all <;> omega))
    · refine o_unwanted rfl rfl rfl rfl rfl ?_
      refine o_unwanted rfl rfl rfl rfl rfl ?_
      refine o_unwanted rfl rfl rfl rfl rfl ?_
      refine o_pick_f rfl rfl ?_
      refine o_move ?_
      refine o_unwanted rfl rfl rfl rfl rfl ?_
      refine o_unwanted rfl rfl rfl rfl rfl ?_
      refine o_unwanted rfl rfl rfl rfl rfl ?_
      refine o_pick_f rfl rfl ?_
      refine o_assign ?_
      first | refine g_endt ?_ | refine g_end ?_
      repeat (first | refine g_endt ?_ | refine g_end ?_ | refine g_then ?_ | refine g_in_normal ?_ | refine g_then_ret ?_ | refine g_in_ret ?_ | refine g_then_exit ?_ | refine g_in_exit rfl ?_ | refine g_in_exit_ne (by decide) ?_ | refine g_seq ?_ | refine g_region ?_ | refine g_block ?_ | refine g_ret ?_ | refine g_return_n ?_ | refine g_exit ?_ | refine g_skip ?_)
      refine ret1 rfl (resT rfl) ⟨congrArg Value.bool ?_, rfl⟩
      (unfold validS; rw [if_neg k1, if_pos k2, show (decide (s.text = ByteArray.empty)) = (s.text.toList == ({ data := #[] } : ByteArray).toList) from (text_empty s.text).symm]; generalize (s.text.toList == ({ data := #[] } : ByteArray).toList) = tb at *; (try (simp only [decide_eq_true_eq, decide_eq_false_iff_not, ge_iff_le, gt_iff_lt] at *)); cases tb <;> (rw [Bool.eq_iff_iff]; simp_all <;> omega))
  first | refine g_seq (g_cond_f rfl (by simpa using k2) ?_) | refine g_cond_f rfl (by simpa using k2) ?_
  repeat (first | refine g_endt ?_ | refine g_end ?_ | refine g_then ?_ | refine g_in_normal ?_ | refine g_then_ret ?_ | refine g_in_ret ?_ | refine g_then_exit ?_ | refine g_in_exit rfl ?_ | refine g_in_exit_ne (by decide) ?_ | refine g_seq ?_ | refine g_region ?_ | refine g_block ?_ | refine g_ret ?_ | refine g_return_n ?_ | refine g_exit ?_ | refine g_skip ?_)
  refine o_eql rfl rfl ?_
  refine o_assign ?_
  first | refine g_endt ?_ | refine g_end ?_
  by_cases k3 : s.kind = 3
  · first | refine g_seq (g_cond_t rfl (by simpa using k3) ?_) | refine g_cond_t rfl (by simpa using k3) ?_
    repeat (first | refine g_endt ?_ | refine g_end ?_ | refine g_then ?_ | refine g_in_normal ?_ | refine g_then_ret ?_ | refine g_in_ret ?_ | refine g_then_exit ?_ | refine g_in_exit rfl ?_ | refine g_in_exit_ne (by decide) ?_ | refine g_seq ?_ | refine g_region ?_ | refine g_block ?_ | refine g_ret ?_ | refine g_return_n ?_ | refine g_exit ?_ | refine g_skip ?_)
    first | refine o_field rfl ?_ | refine o_fieldR rfl (by omega) ?_
    refine o_load1 (v := .int .i64 s.n) rfl rfl ?_
    refine o_eql rfl rfl ?_
    refine o_moveB rfl (fun h3 => ?_) (fun h3 => ?_)
    · first | refine o_want rfl rfl rfl rfl rfl <| o_field rfl ?_ | refine o_want rfl rfl rfl rfl rfl <| o_fieldR rfl (by omega) ?_
      refine o_want rfl rfl rfl rfl rfl <| o_load1 (v := .string s.text) rfl rfl ?_
      refine o_want rfl rfl rfl rfl rfl <| o_call (Word04_spec s.text hb) rfl rfl ?_
      rintro _ _ ⟨rfl, rfl⟩
      refine o_pick_t rfl rfl ?_
      refine o_assign ?_
      first | refine g_endt ?_ | refine g_end ?_
      repeat (first | refine g_endt ?_ | refine g_end ?_ | refine g_then ?_ | refine g_in_normal ?_ | refine g_then_ret ?_ | refine g_in_ret ?_ | refine g_then_exit ?_ | refine g_in_exit rfl ?_ | refine g_in_exit_ne (by decide) ?_ | refine g_seq ?_ | refine g_region ?_ | refine g_block ?_ | refine g_ret ?_ | refine g_return_n ?_ | refine g_exit ?_ | refine g_skip ?_)
      refine ret1 rfl (resT rfl) ⟨congrArg Value.bool ?_, rfl⟩
      (unfold validS; rw [if_neg k1, if_neg k2, if_pos k3]; simp only [beq_iff_eq, beq_eq_false_iff_ne, ne_eq] at *; simp_all)
    · refine o_unwanted rfl rfl rfl rfl rfl ?_
      refine o_unwanted rfl rfl rfl rfl rfl ?_
      refine o_unwanted rfl rfl rfl rfl rfl ?_
      refine o_pick_f rfl rfl ?_
      refine o_assign ?_
      first | refine g_endt ?_ | refine g_end ?_
      repeat (first | refine g_endt ?_ | refine g_end ?_ | refine g_then ?_ | refine g_in_normal ?_ | refine g_then_ret ?_ | refine g_in_ret ?_ | refine g_then_exit ?_ | refine g_in_exit rfl ?_ | refine g_in_exit_ne (by decide) ?_ | refine g_seq ?_ | refine g_region ?_ | refine g_block ?_ | refine g_ret ?_ | refine g_return_n ?_ | refine g_exit ?_ | refine g_skip ?_)
      refine ret1 rfl (resT rfl) ⟨congrArg Value.bool ?_, rfl⟩
      (unfold validS; rw [if_neg k1, if_neg k2, if_pos k3]; simp only [beq_iff_eq, beq_eq_false_iff_ne, ne_eq] at *; simp_all)
  first | refine g_seq (g_cond_f rfl (by simpa using k3) ?_) | refine g_cond_f rfl (by simpa using k3) ?_
  repeat (first | refine g_endt ?_ | refine g_end ?_ | refine g_then ?_ | refine g_in_normal ?_ | refine g_then_ret ?_ | refine g_in_ret ?_ | refine g_then_exit ?_ | refine g_in_exit rfl ?_ | refine g_in_exit_ne (by decide) ?_ | refine g_seq ?_ | refine g_region ?_ | refine g_block ?_ | refine g_ret ?_ | refine g_return_n ?_ | refine g_exit ?_ | refine g_skip ?_)
  refine o_assign ?_
  first | refine g_endt ?_ | refine g_end ?_
  repeat (first | refine g_endt ?_ | refine g_end ?_ | refine g_then ?_ | refine g_in_normal ?_ | refine g_then_ret ?_ | refine g_in_ret ?_ | refine g_then_exit ?_ | refine g_in_exit rfl ?_ | refine g_in_exit_ne (by decide) ?_ | refine g_seq ?_ | refine g_region ?_ | refine g_block ?_ | refine g_ret ?_ | refine g_return_n ?_ | refine g_exit ?_ | refine g_skip ?_)
  exact ret1 rfl (resT (v := .bool false) rfl) ⟨by unfold validS; rw [if_neg k1, if_neg k2, if_neg k3], rfl⟩
theorem Const_spec (s : SymD) (hb : s.text.size ≤ 4611686018427387904) : Ctr Try.prog 50 [s.val] [] (fun v M => v = .bool (validS s && decide (s.kind ≠ 1)) ∧ M = []) := by
  refine spec_of Try.func50 rfl Try.ntmps50 rfl fun w0 F => ?_
  -- ponder/ponderref04.Const
  repeat (first | refine g_endt ?_ | refine g_end ?_ | refine g_then ?_ | refine g_in_normal ?_ | refine g_then_ret ?_ | refine g_in_ret ?_ | refine g_then_exit ?_ | refine g_in_exit rfl ?_ | refine g_in_exit_ne (by decide) ?_ | refine g_seq ?_ | refine g_region ?_ | refine g_block ?_ | refine g_ret ?_ | refine g_return_n ?_ | refine g_exit ?_ | refine g_skip ?_)
  refine o_boxc s.val.cells rfl rfl fun q => ?_
  refine o_assign ?_
  first | refine g_endt ?_ | refine g_end ?_
  repeat (first | refine g_endt ?_ | refine g_end ?_ | refine g_then ?_ | refine g_in_normal ?_ | refine g_then_ret ?_ | refine g_in_ret ?_ | refine g_then_exit ?_ | refine g_in_exit rfl ?_ | refine g_in_exit_ne (by decide) ?_ | refine g_seq ?_ | refine g_region ?_ | refine g_block ?_ | refine g_ret ?_ | refine g_return_n ?_ | refine g_exit ?_ | refine g_skip ?_)
  refine o_loadN (v := s.val) rfl rfl rfl ?_
  refine o_call (Valid04_spec s hb) rfl rfl ?_
  rintro _ _ ⟨rfl, rfl⟩
  refine o_moveB rfl (fun h2 => ?_) (fun h2 => ?_)
  · first | refine o_want rfl rfl rfl rfl rfl <| o_field rfl ?_ | refine o_want rfl rfl rfl rfl rfl <| o_fieldR rfl (by omega) ?_
    refine o_want rfl rfl rfl rfl rfl <| o_load1 (v := .int .i64 s.kind) rfl rfl ?_
    refine o_want rfl rfl rfl rfl rfl <| o_neq rfl rfl ?_
    refine o_pick_t rfl rfl ?_
    refine o_assign ?_
    first | refine g_endt ?_ | refine g_end ?_
    repeat (first | refine g_endt ?_ | refine g_end ?_ | refine g_then ?_ | refine g_in_normal ?_ | refine g_then_ret ?_ | refine g_in_ret ?_ | refine g_then_exit ?_ | refine g_in_exit rfl ?_ | refine g_in_exit_ne (by decide) ?_ | refine g_seq ?_ | refine g_region ?_ | refine g_block ?_ | refine g_ret ?_ | refine g_return_n ?_ | refine g_exit ?_ | refine g_skip ?_)
    refine ret1 rfl (resT rfl) ⟨congrArg Value.bool ?_, rfl⟩
    (rw [h2]; rw [Bool.eq_iff_iff]; simp)
  · refine o_unwanted rfl rfl rfl rfl rfl ?_
    refine o_unwanted rfl rfl rfl rfl rfl ?_
    refine o_unwanted rfl rfl rfl rfl rfl ?_
    refine o_pick_f rfl rfl ?_
    refine o_assign ?_
    first | refine g_endt ?_ | refine g_end ?_
    repeat (first | refine g_endt ?_ | refine g_end ?_ | refine g_then ?_ | refine g_in_normal ?_ | refine g_then_ret ?_ | refine g_in_ret ?_ | refine g_then_exit ?_ | refine g_in_exit rfl ?_ | refine g_in_exit_ne (by decide) ?_ | refine g_seq ?_ | refine g_region ?_ | refine g_block ?_ | refine g_ret ?_ | refine g_return_n ?_ | refine g_exit ?_ | refine g_skip ?_)
    refine ret1 rfl (resT rfl) ⟨congrArg Value.bool ?_, rfl⟩
    (rw [h2]; rw [Bool.eq_iff_iff]; simp)
/-- The texts of an element are short enough to be walked. -/
def ElemD.small (e : ElemD) : Prop := e.id.text.size ≤ 4611686018427387904 ∧ e.attr.text.size ≤ 4611686018427387904 ∧ e.value.text.size ≤ 4611686018427387904
theorem ValidR_spec (e : ElemD) (hb : e.small) : Ctr Try.prog 121 [e.val] [] (fun v M => v = .bool (validE e) ∧ M = []) := by
  refine spec_of Try.func121 rfl Try.ntmps121 rfl fun w0 F => ?_
  -- ponder/ponderref10.Valid
  repeat (first | refine g_endt ?_ | refine g_end ?_ | refine g_then ?_ | refine g_in_normal ?_ | refine g_then_ret ?_ | refine g_in_ret ?_ | refine g_then_exit ?_ | refine g_in_exit rfl ?_ | refine g_in_exit_ne (by decide) ?_ | refine g_seq ?_ | refine g_region ?_ | refine g_block ?_ | refine g_ret ?_ | refine g_return_n ?_ | refine g_exit ?_ | refine g_skip ?_)
  refine o_boxc e.val.cells rfl rfl fun q => ?_
  refine o_assign ?_
  first | refine g_endt ?_ | refine g_end ?_
  repeat (first | refine g_endt ?_ | refine g_end ?_ | refine g_then ?_ | refine g_in_normal ?_ | refine g_then_ret ?_ | refine g_in_ret ?_ | refine g_then_exit ?_ | refine g_in_exit rfl ?_ | refine g_in_exit_ne (by decide) ?_ | refine g_seq ?_ | refine g_region ?_ | refine g_block ?_ | refine g_ret ?_ | refine g_return_n ?_ | refine g_exit ?_ | refine g_skip ?_)
  first | refine o_field rfl ?_ | refine o_fieldR rfl (by omega) ?_
  refine o_loadN (v := e.id.val) rfl rfl rfl ?_
  refine o_call (Valid04_spec e.id hb.1) rfl rfl ?_
  rintro _ _ ⟨rfl, rfl⟩
  refine o_moveB rfl (fun h3 => ?_) (fun h3 => ?_)
  · first | refine o_want rfl rfl rfl rfl rfl <| o_field rfl ?_ | refine o_want rfl rfl rfl rfl rfl <| o_fieldR rfl (by omega) ?_
    first | refine o_want rfl rfl rfl rfl rfl <| o_field rfl ?_ | refine o_want rfl rfl rfl rfl rfl <| o_fieldR rfl (by omega) ?_
    refine o_want rfl rfl rfl rfl rfl <| o_load1 (v := .int .i64 e.id.kind) rfl rfl ?_
    refine o_want rfl rfl rfl rfl rfl <| o_eql rfl rfl ?_
    refine o_pick_t rfl rfl ?_
    refine o_moveB rfl (fun h9 => ?_) (fun h9 => ?_)
    · first | refine o_want rfl rfl rfl rfl rfl <| o_field rfl ?_ | refine o_want rfl rfl rfl rfl rfl <| o_fieldR rfl (by omega) ?_
      refine o_want rfl rfl rfl rfl rfl <| o_loadN (v := e.attr.val) rfl rfl rfl ?_
      refine o_want rfl rfl rfl rfl rfl <| o_call (Const_spec e.attr hb.2.1) rfl rfl ?_
      rintro _ _ ⟨rfl, rfl⟩
      refine o_pick_t rfl rfl ?_
      refine o_moveB rfl (fun h14 => ?_) (fun h14 => ?_)
      · first | refine o_want rfl rfl rfl rfl rfl <| o_field rfl ?_ | refine o_want rfl rfl rfl rfl rfl <| o_fieldR rfl (by omega) ?_
        refine o_want rfl rfl rfl rfl rfl <| o_loadN (v := e.value.val) rfl rfl rfl ?_
        refine o_want rfl rfl rfl rfl rfl <| o_call (Valid04_spec e.value hb.2.2) rfl rfl ?_
        rintro _ _ ⟨rfl, rfl⟩
        refine o_pick_t rfl rfl ?_
        refine o_assign ?_
        first | refine g_endt ?_ | refine g_end ?_
        repeat (first | refine g_endt ?_ | refine g_end ?_ | refine g_then ?_ | refine g_in_normal ?_ | refine g_then_ret ?_ | refine g_in_ret ?_ | refine g_then_exit ?_ | refine g_in_exit rfl ?_ | refine g_in_exit_ne (by decide) ?_ | refine g_seq ?_ | refine g_region ?_ | refine g_block ?_ | refine g_ret ?_ | refine g_return_n ?_ | refine g_exit ?_ | refine g_skip ?_)
        refine ret1 rfl (resT rfl) ⟨congrArg Value.bool ?_, rfl⟩
        (unfold validE; generalize validS e.id = a1 at *; generalize validS e.attr = a2 at *; generalize validS e.value = a3 at *; simp only [beq_iff_eq, beq_eq_false_iff_ne, ne_eq] at *; simp_all)
      · refine o_unwanted rfl rfl rfl rfl rfl ?_
        refine o_unwanted rfl rfl rfl rfl rfl ?_
        refine o_unwanted rfl rfl rfl rfl rfl ?_
        refine o_pick_f rfl rfl ?_
        refine o_assign ?_
        first | refine g_endt ?_ | refine g_end ?_
        repeat (first | refine g_endt ?_ | refine g_end ?_ | refine g_then ?_ | refine g_in_normal ?_ | refine g_then_ret ?_ | refine g_in_ret ?_ | refine g_then_exit ?_ | refine g_in_exit rfl ?_ | refine g_in_exit_ne (by decide) ?_ | refine g_seq ?_ | refine g_region ?_ | refine g_block ?_ | refine g_ret ?_ | refine g_return_n ?_ | refine g_exit ?_ | refine g_skip ?_)
        refine ret1 rfl (resT rfl) ⟨congrArg Value.bool ?_, rfl⟩
        (unfold validE; generalize validS e.id = a1 at *; generalize validS e.attr = a2 at *; generalize validS e.value = a3 at *; simp only [beq_iff_eq, beq_eq_false_iff_ne, ne_eq] at *; simp_all)
    · refine o_unwanted rfl rfl rfl rfl rfl ?_
      refine o_unwanted rfl rfl rfl rfl rfl ?_
      refine o_unwanted rfl rfl rfl rfl rfl ?_
      refine o_pick_f rfl rfl ?_
      refine o_move ?_
      refine o_unwanted rfl rfl rfl rfl rfl ?_
      refine o_unwanted rfl rfl rfl rfl rfl ?_
      refine o_unwanted rfl rfl rfl rfl rfl ?_
      refine o_pick_f rfl rfl ?_
      refine o_assign ?_
      first | refine g_endt ?_ | refine g_end ?_
      repeat (first | refine g_endt ?_ | refine g_end ?_ | refine g_then ?_ | refine g_in_normal ?_ | refine g_then_ret ?_ | refine g_in_ret ?_ | refine g_then_exit ?_ | refine g_in_exit rfl ?_ | refine g_in_exit_ne (by decide) ?_ | refine g_seq ?_ | refine g_region ?_ | refine g_block ?_ | refine g_ret ?_ | refine g_return_n ?_ | refine g_exit ?_ | refine g_skip ?_)
      refine ret1 rfl (resT rfl) ⟨congrArg Value.bool ?_, rfl⟩
      (unfold validE; generalize validS e.id = a1 at *; generalize validS e.attr = a2 at *; generalize validS e.value = a3 at *; simp only [beq_iff_eq, beq_eq_false_iff_ne, ne_eq] at *; simp_all)
  · refine o_unwanted rfl rfl rfl rfl rfl ?_
    refine o_unwanted rfl rfl rfl rfl rfl ?_
    refine o_unwanted rfl rfl rfl rfl rfl ?_
    refine o_unwanted rfl rfl rfl rfl rfl ?_
    refine o_pick_f rfl rfl ?_
    refine o_move ?_
    refine o_unwanted rfl rfl rfl rfl rfl ?_
    refine o_unwanted rfl rfl rfl rfl rfl ?_
    refine o_unwanted rfl rfl rfl rfl rfl ?_
    refine o_pick_f rfl rfl ?_
    refine o_move ?_
    refine o_unwanted rfl rfl rfl rfl rfl ?_
    refine o_unwanted rfl rfl rfl rfl rfl ?_
    refine o_unwanted rfl rfl rfl rfl rfl ?_
    refine o_pick_f rfl rfl ?_
    refine o_assign ?_
    first | refine g_endt ?_ | refine g_end ?_
    repeat (first | refine g_endt ?_ | refine g_end ?_ | refine g_then ?_ | refine g_in_normal ?_ | refine g_then_ret ?_ | refine g_in_ret ?_ | refine g_then_exit ?_ | refine g_in_exit rfl ?_ | refine g_in_exit_ne (by decide) ?_ | refine g_seq ?_ | refine g_region ?_ | refine g_block ?_ | refine g_ret ?_ | refine g_return_n ?_ | refine g_exit ?_ | refine g_skip ?_)
    refine ret1 rfl (resT rfl) ⟨congrArg Value.bool ?_, rfl⟩
    (unfold validE; generalize validS e.id = a1 at *; generalize validS e.attr = a2 at *; generalize validS e.value = a3 at *; simp only [beq_iff_eq, beq_eq_false_iff_ne, ne_eq] at *; simp_all)
theorem ValidM_spec (e : ElemD) (hb : e.small) : Ctr Try.prog 52 [e.val] [] (fun v M => v = .bool (validE e) ∧ M = []) := by
  refine spec_of Try.func52 rfl Try.ntmps52 rfl fun w0 F => ?_
  -- ponder/mem.Valid
  repeat (first | refine g_endt ?_ | refine g_end ?_ | refine g_then ?_ | refine g_in_normal ?_ | refine g_then_ret ?_ | refine g_in_ret ?_ | refine g_then_exit ?_ | refine g_in_exit rfl ?_ | refine g_in_exit_ne (by decide) ?_ | refine g_seq ?_ | refine g_region ?_ | refine g_block ?_ | refine g_ret ?_ | refine g_return_n ?_ | refine g_exit ?_ | refine g_skip ?_)
  refine o_boxc e.val.cells rfl rfl fun q => ?_
  refine o_assign ?_
  first | refine g_endt ?_ | refine g_end ?_
  repeat (first | refine g_endt ?_ | refine g_end ?_ | refine g_then ?_ | refine g_in_normal ?_ | refine g_then_ret ?_ | refine g_in_ret ?_ | refine g_then_exit ?_ | refine g_in_exit rfl ?_ | refine g_in_exit_ne (by decide) ?_ | refine g_seq ?_ | refine g_region ?_ | refine g_block ?_ | refine g_ret ?_ | refine g_return_n ?_ | refine g_exit ?_ | refine g_skip ?_)
  first | refine o_field rfl ?_ | refine o_fieldR rfl (by omega) ?_
  first | refine o_field rfl ?_ | refine o_fieldR rfl (by omega) ?_
  refine o_load1 (v := .int .i64 e.id.kind) rfl rfl ?_
  refine o_eql rfl rfl ?_
  refine o_moveB rfl (fun h4 => ?_) (fun h4 => ?_)
  · first | refine o_want rfl rfl rfl rfl rfl <| o_field rfl ?_ | refine o_want rfl rfl rfl rfl rfl <| o_fieldR rfl (by omega) ?_
    first | refine o_want rfl rfl rfl rfl rfl <| o_field rfl ?_ | refine o_want rfl rfl rfl rfl rfl <| o_fieldR rfl (by omega) ?_
    refine o_want rfl rfl rfl rfl rfl <| o_load1 (v := .int .i64 e.attr.kind) rfl rfl ?_
    refine o_want rfl rfl rfl rfl rfl <| o_neq rfl rfl ?_
    refine o_pick_t rfl rfl ?_
    refine o_moveB rfl (fun h10 => ?_) (fun h10 => ?_)
    · first | refine o_want rfl rfl rfl rfl rfl <| o_field rfl ?_ | refine o_want rfl rfl rfl rfl rfl <| o_fieldR rfl (by omega) ?_
      refine o_want rfl rfl rfl rfl rfl <| o_loadN (v := e.id.val) rfl rfl rfl ?_
      refine o_want rfl rfl rfl rfl rfl <| o_call (Valid_spec e.id hb.1) rfl rfl ?_
      rintro _ _ ⟨rfl, rfl⟩
      refine o_pick_t rfl rfl ?_
      refine o_moveB rfl (fun h15 => ?_) (fun h15 => ?_)
      · first | refine o_want rfl rfl rfl rfl rfl <| o_field rfl ?_ | refine o_want rfl rfl rfl rfl rfl <| o_fieldR rfl (by omega) ?_
        refine o_want rfl rfl rfl rfl rfl <| o_loadN (v := e.attr.val) rfl rfl rfl ?_
        refine o_want rfl rfl rfl rfl rfl <| o_call (Valid_spec e.attr hb.2.1) rfl rfl ?_
        rintro _ _ ⟨rfl, rfl⟩
        refine o_pick_t rfl rfl ?_
        refine o_moveB rfl (fun h20 => ?_) (fun h20 => ?_)
        · first | refine o_want rfl rfl rfl rfl rfl <| o_field rfl ?_ | refine o_want rfl rfl rfl rfl rfl <| o_fieldR rfl (by omega) ?_
          refine o_want rfl rfl rfl rfl rfl <| o_loadN (v := e.value.val) rfl rfl rfl ?_
          refine o_want rfl rfl rfl rfl rfl <| o_call (Valid_spec e.value hb.2.2) rfl rfl ?_
          rintro _ _ ⟨rfl, rfl⟩
          refine o_pick_t rfl rfl ?_
          refine o_assign ?_
          first | refine g_endt ?_ | refine g_end ?_
          repeat (first | refine g_endt ?_ | refine g_end ?_ | refine g_then ?_ | refine g_in_normal ?_ | refine g_then_ret ?_ | refine g_in_ret ?_ | refine g_then_exit ?_ | refine g_in_exit rfl ?_ | refine g_in_exit_ne (by decide) ?_ | refine g_seq ?_ | refine g_region ?_ | refine g_block ?_ | refine g_ret ?_ | refine g_return_n ?_ | refine g_exit ?_ | refine g_skip ?_)
          refine ret1 rfl (resT rfl) ⟨congrArg Value.bool ?_, rfl⟩
          (unfold validE; generalize validS e.id = a1 at *; generalize validS e.attr = a2 at *; generalize validS e.value = a3 at *; simp only [beq_iff_eq, beq_eq_false_iff_ne, bne_iff_ne, ne_eq] at *; simp_all)
        · refine o_unwanted rfl rfl rfl rfl rfl ?_
          refine o_unwanted rfl rfl rfl rfl rfl ?_
          refine o_unwanted rfl rfl rfl rfl rfl ?_
          refine o_pick_f rfl rfl ?_
          refine o_assign ?_
          first | refine g_endt ?_ | refine g_end ?_
          repeat (first | refine g_endt ?_ | refine g_end ?_ | refine g_then ?_ | refine g_in_normal ?_ | refine g_then_ret ?_ | refine g_in_ret ?_ | refine g_then_exit ?_ | refine g_in_exit rfl ?_ | refine g_in_exit_ne (by decide) ?_ | refine g_seq ?_ | refine g_region ?_ | refine g_block ?_ | refine g_ret ?_ | refine g_return_n ?_ | refine g_exit ?_ | refine g_skip ?_)
          refine ret1 rfl (resT rfl) ⟨congrArg Value.bool ?_, rfl⟩
          (unfold validE; generalize validS e.id = a1 at *; generalize validS e.attr = a2 at *; generalize validS e.value = a3 at *; simp only [beq_iff_eq, beq_eq_false_iff_ne, bne_iff_ne, ne_eq] at *; simp_all)
      · refine o_unwanted rfl rfl rfl rfl rfl ?_
        refine o_unwanted rfl rfl rfl rfl rfl ?_
        refine o_unwanted rfl rfl rfl rfl rfl ?_
        refine o_pick_f rfl rfl ?_
        refine o_move ?_
        refine o_unwanted rfl rfl rfl rfl rfl ?_
        refine o_unwanted rfl rfl rfl rfl rfl ?_
        refine o_unwanted rfl rfl rfl rfl rfl ?_
        refine o_pick_f rfl rfl ?_
        refine o_assign ?_
        first | refine g_endt ?_ | refine g_end ?_
        repeat (first | refine g_endt ?_ | refine g_end ?_ | refine g_then ?_ | refine g_in_normal ?_ | refine g_then_ret ?_ | refine g_in_ret ?_ | refine g_then_exit ?_ | refine g_in_exit rfl ?_ | refine g_in_exit_ne (by decide) ?_ | refine g_seq ?_ | refine g_region ?_ | refine g_block ?_ | refine g_ret ?_ | refine g_return_n ?_ | refine g_exit ?_ | refine g_skip ?_)
        refine ret1 rfl (resT rfl) ⟨congrArg Value.bool ?_, rfl⟩
        (unfold validE; generalize validS e.id = a1 at *; generalize validS e.attr = a2 at *; generalize validS e.value = a3 at *; simp only [beq_iff_eq, beq_eq_false_iff_ne, bne_iff_ne, ne_eq] at *; simp_all)
    · refine o_unwanted rfl rfl rfl rfl rfl ?_
      refine o_unwanted rfl rfl rfl rfl rfl ?_
      refine o_unwanted rfl rfl rfl rfl rfl ?_
      refine o_pick_f rfl rfl ?_
      refine o_move ?_
      refine o_unwanted rfl rfl rfl rfl rfl ?_
      refine o_unwanted rfl rfl rfl rfl rfl ?_
      refine o_unwanted rfl rfl rfl rfl rfl ?_
      refine o_pick_f rfl rfl ?_
      refine o_move ?_
      refine o_unwanted rfl rfl rfl rfl rfl ?_
      refine o_unwanted rfl rfl rfl rfl rfl ?_
      refine o_unwanted rfl rfl rfl rfl rfl ?_
      refine o_pick_f rfl rfl ?_
      refine o_assign ?_
      first | refine g_endt ?_ | refine g_end ?_
      repeat (first | refine g_endt ?_ | refine g_end ?_ | refine g_then ?_ | refine g_in_normal ?_ | refine g_then_ret ?_ | refine g_in_ret ?_ | refine g_then_exit ?_ | refine g_in_exit rfl ?_ | refine g_in_exit_ne (by decide) ?_ | refine g_seq ?_ | refine g_region ?_ | refine g_block ?_ | refine g_ret ?_ | refine g_return_n ?_ | refine g_exit ?_ | refine g_skip ?_)
      refine ret1 rfl (resT rfl) ⟨congrArg Value.bool ?_, rfl⟩
      (unfold validE; generalize validS e.id = a1 at *; generalize validS e.attr = a2 at *; generalize validS e.value = a3 at *; simp only [beq_iff_eq, beq_eq_false_iff_ne, bne_iff_ne, ne_eq] at *; simp_all)
  · refine o_unwanted rfl rfl rfl rfl rfl ?_
    refine o_unwanted rfl rfl rfl rfl rfl ?_
    refine o_unwanted rfl rfl rfl rfl rfl ?_
    refine o_unwanted rfl rfl rfl rfl rfl ?_
    refine o_pick_f rfl rfl ?_
    refine o_move ?_
    refine o_unwanted rfl rfl rfl rfl rfl ?_
    refine o_unwanted rfl rfl rfl rfl rfl ?_
    refine o_unwanted rfl rfl rfl rfl rfl ?_
    refine o_pick_f rfl rfl ?_
    refine o_move ?_
    refine o_unwanted rfl rfl rfl rfl rfl ?_
    refine o_unwanted rfl rfl rfl rfl rfl ?_
    refine o_unwanted rfl rfl rfl rfl rfl ?_
    refine o_pick_f rfl rfl ?_
    refine o_move ?_
    refine o_unwanted rfl rfl rfl rfl rfl ?_
    refine o_unwanted rfl rfl rfl rfl rfl ?_
    refine o_unwanted rfl rfl rfl rfl rfl ?_
    refine o_pick_f rfl rfl ?_
    refine o_assign ?_
    first | refine g_endt ?_ | refine g_end ?_
    repeat (first | refine g_endt ?_ | refine g_end ?_ | refine g_then ?_ | refine g_in_normal ?_ | refine g_then_ret ?_ | refine g_in_ret ?_ | refine g_then_exit ?_ | refine g_in_exit rfl ?_ | refine g_in_exit_ne (by decide) ?_ | refine g_seq ?_ | refine g_region ?_ | refine g_block ?_ | refine g_ret ?_ | refine g_return_n ?_ | refine g_exit ?_ | refine g_skip ?_)
    refine ret1 rfl (resT rfl) ⟨congrArg Value.bool ?_, rfl⟩
    (unfold validE; generalize validS e.id = a1 at *; generalize validS e.attr = a2 at *; generalize validS e.value = a3 at *; simp only [beq_iff_eq, beq_eq_false_iff_ne, bne_iff_ne, ne_eq] at *; simp_all)
end Go.Proofs.Ytfakoemkapankaa
/- The statements' own symbols and elements. -/
namespace Go.Proofs.Ytfakoemkapankaa
open Go Go.Sl
attribute [local irreducible] Code.wpIn roundPost bodyPostM runL Ret Meets Begin

def symN (n : Int) : SymD := ⟨2, ByteArray.empty, n⟩
def symI (t : ByteArray) (n : Int) : SymD := ⟨1, t, n⟩
def symW (t : ByteArray) : SymD := ⟨3, t, 0⟩
def elemE (n : Int) (a : ByteArray) (v : SymD) : ElemD := ⟨symI ⟨#[65]⟩ n, symW a, v, false, false, 0⟩
theorem N_spec (n : Int) : Ctr Try.prog 54 [.int .i64 n] [] (fun v M => v = (symN n).val ∧ M = []) := by
  refine spec_of Try.func54 rfl Try.ntmps54 rfl fun w0 F => ?_
  -- ponder/ponderlaw09.N
  repeat (first | refine g_endt ?_ | refine g_end ?_ | refine g_then ?_ | refine g_in_normal ?_ | refine g_then_ret ?_ | refine g_in_ret ?_ | refine g_then_exit ?_ | refine g_in_exit rfl ?_ | refine g_in_exit_ne (by decide) ?_ | refine g_seq ?_ | refine g_region ?_ | refine g_block ?_ | refine g_ret ?_ | refine g_return_n ?_ | refine g_exit ?_ | refine g_skip ?_)
  refine o_alloc fun r => ?_
  first | refine g_endt ?_ | refine g_end ?_
  repeat (first | refine g_endt ?_ | refine g_end ?_ | refine g_then ?_ | refine g_in_normal ?_ | refine g_then_ret ?_ | refine g_in_ret ?_ | refine g_then_exit ?_ | refine g_in_exit rfl ?_ | refine g_in_exit_ne (by decide) ?_ | refine g_seq ?_ | refine g_region ?_ | refine g_block ?_ | refine g_ret ?_ | refine g_return_n ?_ | refine g_exit ?_ | refine g_skip ?_)
  refine o_move ?_
  refine o_build ((symN n).val) (fun w => by kernel_rfl) ?_
  refine o_store (v := (symN n).val) rfl rfl rfl rfl rfl ?_
  first | refine g_endt ?_ | refine g_end ?_
  refine G.norm r (symN n).val.cells rfl ?_
  repeat (first | refine g_endt ?_ | refine g_end ?_ | refine g_then ?_ | refine g_in_normal ?_ | refine g_then_ret ?_ | refine g_in_ret ?_ | refine g_then_exit ?_ | refine g_in_exit rfl ?_ | refine g_in_exit_ne (by decide) ?_ | refine g_seq ?_ | refine g_region ?_ | refine g_block ?_ | refine g_ret ?_ | refine g_return_n ?_ | refine g_exit ?_ | refine g_skip ?_)
  exact ret1 (K := []) rfl (resCN (v := (symN n).val) rfl rfl rfl) ⟨rfl, rfl⟩
theorem I_spec (t : ByteArray) (n : Int) : Ctr Try.prog 95 [.string t, .int .i64 n] [] (fun v M => v = (symI t n).val ∧ M = []) := by
  refine spec_of Try.func95 rfl Try.ntmps95 rfl fun w0 F => ?_
  -- ponder/ponderlaw09.I
  repeat (first | refine g_endt ?_ | refine g_end ?_ | refine g_then ?_ | refine g_in_normal ?_ | refine g_then_ret ?_ | refine g_in_ret ?_ | refine g_then_exit ?_ | refine g_in_exit rfl ?_ | refine g_in_exit_ne (by decide) ?_ | refine g_seq ?_ | refine g_region ?_ | refine g_block ?_ | refine g_ret ?_ | refine g_return_n ?_ | refine g_exit ?_ | refine g_skip ?_)
  refine o_alloc fun r => ?_
  first | refine g_endt ?_ | refine g_end ?_
  repeat (first | refine g_endt ?_ | refine g_end ?_ | refine g_then ?_ | refine g_in_normal ?_ | refine g_then_ret ?_ | refine g_in_ret ?_ | refine g_then_exit ?_ | refine g_in_exit rfl ?_ | refine g_in_exit_ne (by decide) ?_ | refine g_seq ?_ | refine g_region ?_ | refine g_block ?_ | refine g_ret ?_ | refine g_return_n ?_ | refine g_exit ?_ | refine g_skip ?_)
  refine o_move ?_
  refine o_move ?_
  refine o_build ((symI t n).val) (fun w => by kernel_rfl) ?_
  refine o_store (v := (symI t n).val) rfl rfl rfl rfl rfl ?_
  first | refine g_endt ?_ | refine g_end ?_
  refine G.norm r (symI t n).val.cells rfl ?_
  repeat (first | refine g_endt ?_ | refine g_end ?_ | refine g_then ?_ | refine g_in_normal ?_ | refine g_then_ret ?_ | refine g_in_ret ?_ | refine g_then_exit ?_ | refine g_in_exit rfl ?_ | refine g_in_exit_ne (by decide) ?_ | refine g_seq ?_ | refine g_region ?_ | refine g_block ?_ | refine g_ret ?_ | refine g_return_n ?_ | refine g_exit ?_ | refine g_skip ?_)
  exact ret1 (K := []) rfl (resCN (v := (symI t n).val) rfl rfl rfl) ⟨rfl, rfl⟩
theorem W_spec (t : ByteArray) : Ctr Try.prog 96 [.string t] [] (fun v M => v = (symW t).val ∧ M = []) := by
  refine spec_of Try.func96 rfl Try.ntmps96 rfl fun w0 F => ?_
  -- ponder/ponderlaw09.W
  repeat (first | refine g_endt ?_ | refine g_end ?_ | refine g_then ?_ | refine g_in_normal ?_ | refine g_then_ret ?_ | refine g_in_ret ?_ | refine g_then_exit ?_ | refine g_in_exit rfl ?_ | refine g_in_exit_ne (by decide) ?_ | refine g_seq ?_ | refine g_region ?_ | refine g_block ?_ | refine g_ret ?_ | refine g_return_n ?_ | refine g_exit ?_ | refine g_skip ?_)
  refine o_alloc fun r => ?_
  first | refine g_endt ?_ | refine g_end ?_
  repeat (first | refine g_endt ?_ | refine g_end ?_ | refine g_then ?_ | refine g_in_normal ?_ | refine g_then_ret ?_ | refine g_in_ret ?_ | refine g_then_exit ?_ | refine g_in_exit rfl ?_ | refine g_in_exit_ne (by decide) ?_ | refine g_seq ?_ | refine g_region ?_ | refine g_block ?_ | refine g_ret ?_ | refine g_return_n ?_ | refine g_exit ?_ | refine g_skip ?_)
  refine o_move ?_
  refine o_build ((symW t).val) (fun w => by kernel_rfl) ?_
  refine o_store (v := (symW t).val) rfl rfl rfl rfl rfl ?_
  first | refine g_endt ?_ | refine g_end ?_
  refine G.norm r (symW t).val.cells rfl ?_
  repeat (first | refine g_endt ?_ | refine g_end ?_ | refine g_then ?_ | refine g_in_normal ?_ | refine g_then_ret ?_ | refine g_in_ret ?_ | refine g_then_exit ?_ | refine g_in_exit rfl ?_ | refine g_in_exit_ne (by decide) ?_ | refine g_seq ?_ | refine g_region ?_ | refine g_block ?_ | refine g_ret ?_ | refine g_return_n ?_ | refine g_exit ?_ | refine g_skip ?_)
  exact ret1 (K := []) rfl (resCN (v := (symW t).val) rfl rfl rfl) ⟨rfl, rfl⟩
theorem E_spec (n : Int) (a : ByteArray) (s : SymD) : Ctr Try.prog 53 [.int .i64 n, .string a, s.val] [] (fun v M => v = (elemE n a s).val ∧ M = []) := by
  refine spec_of Try.func53 rfl Try.ntmps53 rfl fun w0 F => ?_
  -- ponder/ponderlaw10.E
  repeat (first | refine g_endt ?_ | refine g_end ?_ | refine g_then ?_ | refine g_in_normal ?_ | refine g_then_ret ?_ | refine g_in_ret ?_ | refine g_then_exit ?_ | refine g_in_exit rfl ?_ | refine g_in_exit_ne (by decide) ?_ | refine g_seq ?_ | refine g_region ?_ | refine g_block ?_ | refine g_ret ?_ | refine g_return_n ?_ | refine g_exit ?_ | refine g_skip ?_)
  refine o_boxc s.val.cells rfl rfl fun q => ?_
  refine o_alloc fun r => ?_
  first | refine g_endt ?_ | refine g_end ?_
  repeat (first | refine g_endt ?_ | refine g_end ?_ | refine g_then ?_ | refine g_in_normal ?_ | refine g_then_ret ?_ | refine g_in_ret ?_ | refine g_then_exit ?_ | refine g_in_exit rfl ?_ | refine g_in_exit_ne (by decide) ?_ | refine g_seq ?_ | refine g_region ?_ | refine g_block ?_ | refine g_ret ?_ | refine g_return_n ?_ | refine g_exit ?_ | refine g_skip ?_)
  refine g_draw [6] [0,1,2,3,4,5,6] [cellsB q s.val.cells 25] mixed rfl ?_
  refine ob_q rfl rfl ⟨_, fun X Q h => o_move (g_end (h _ _ ⟨rfl, rfl⟩)), ?_⟩
  refine ob_q rfl rfl ⟨_, fun X Q h => o_call (I_spec ⟨#[65]⟩ n) rfl rfl <| by rintro _ _ ⟨rfl, rfl⟩; exact (g_end (h _ _ ⟨rfl, rfl⟩)), ?_⟩
  refine ob_q rfl rfl ⟨_, fun X Q h => o_move (g_end (h _ _ ⟨rfl, rfl⟩)), ?_⟩
  refine ob_q rfl rfl ⟨_, fun X Q h => o_call (W_spec a) rfl rfl <| by rintro _ _ ⟨rfl, rfl⟩; exact (g_end (h _ _ ⟨rfl, rfl⟩)), ?_⟩
  refine ob_q rfl rfl ⟨_, fun X Q h => o_loadN (v := s.val) rfl rfl rfl (g_end (h _ _ ⟨rfl, rfl⟩)), ?_⟩
  refine ob_q rfl rfl ⟨_, fun X Q h => o_build (elemE n a s).val (fun w => by kernel_rfl) (g_end (h _ _ ⟨rfl, rfl⟩)), ?_⟩
  refine ob_l rfl rfl fun Qz hz => o_store (v := (elemE n a s).val) rfl rfl rfl rfl rfl ?_
  refine g_end (hz _ _ ⟨_, ob_fin, ?_⟩)
  clear hz Qz
  refine ob_nil ?_
  refine G.norm r (elemE n a s).val.cells rfl ?_
  repeat (first | refine g_endt ?_ | refine g_end ?_ | refine g_then ?_ | refine g_in_normal ?_ | refine g_then_ret ?_ | refine g_in_ret ?_ | refine g_then_exit ?_ | refine g_in_exit rfl ?_ | refine g_in_exit_ne (by decide) ?_ | refine g_seq ?_ | refine g_region ?_ | refine g_block ?_ | refine g_ret ?_ | refine g_return_n ?_ | refine g_exit ?_ | refine g_skip ?_)
  exact ret1 (K := []) rfl (resCN (v := (elemE n a s).val) rfl rfl rfl) ⟨rfl, rfl⟩
/-- Are elements few, their texts short? -/
def shortE (e : ElemD) : Bool := decide (e.id.text.size ≤ 100) && decide (e.attr.text.size ≤ 100) && decide (e.value.text.size ≤ 100)
theorem shortE_small {e : ElemD} (h : shortE e = true) : e.small := by
  simp only [shortE, Bool.and_eq_true, decide_eq_true_eq] at h
  exact ⟨by omega, by omega, by omega⟩
def lightE (l : List ElemD) (most : Nat) : Bool := decide (l.length ≤ most) && l.all shortE
theorem light_spec (A : Option Addr) (n c most : Nat) (l : List ElemD) (hl : l.length = n) (hm : n ≤ 9223372036854775807) (hk : most ≤ 1000000) : Ctr Try.prog 46 [.slice A n c, .int .i64 (most : Int)] [psl encE 12 A l] (fun v M => v = .bool (lightE l most) ∧ M = []) := by
  refine spec_of Try.func46 rfl Try.ntmps46 rfl fun w0 F => ?_
  -- ponder/ponderlaw10.light
  repeat (first | refine g_endt ?_ | refine g_end ?_ | refine g_then ?_ | refine g_in_normal ?_ | refine g_then_ret ?_ | refine g_in_ret ?_ | refine g_then_exit ?_ | refine g_in_exit rfl ?_ | refine g_in_exit_ne (by decide) ?_ | refine g_seq ?_ | refine g_region ?_ | refine g_block ?_ | refine g_ret ?_ | refine g_return_n ?_ | refine g_exit ?_ | refine g_skip ?_)
  refine o_assign ?_
  first | refine g_endt ?_ | refine g_end ?_
  repeat (first | refine g_endt ?_ | refine g_end ?_ | refine g_then ?_ | refine g_in_normal ?_ | refine g_then_ret ?_ | refine g_in_ret ?_ | refine g_then_exit ?_ | refine g_in_exit rfl ?_ | refine g_in_exit_ne (by decide) ?_ | refine g_seq ?_ | refine g_region ?_ | refine g_block ?_ | refine g_ret ?_ | refine g_return_n ?_ | refine g_exit ?_ | refine g_skip ?_)
  refine o_move ?_
  refine o_len rfl rfl ?_
  refine o_move ?_
  refine o_gtr rfl rfl ?_
  first | refine g_endt ?_ | refine g_end ?_
  by_cases h1 : most < n
  · first | refine g_seq (g_cond_t rfl (by first | rfl | (simp; done) | (simp; omega) | (simp; assumption)) ?_) | refine g_cond_t rfl (by first | rfl | (simp; done) | (simp; omega) | (simp; assumption)) ?_
    repeat (first | refine g_endt ?_ | refine g_end ?_ | refine g_then ?_ | refine g_in_normal ?_ | refine g_then_ret ?_ | refine g_in_ret ?_ | refine g_then_exit ?_ | refine g_in_exit rfl ?_ | refine g_in_exit_ne (by decide) ?_ | refine g_seq ?_ | refine g_region ?_ | refine g_block ?_ | refine g_ret ?_ | refine g_return_n ?_ | refine g_exit ?_ | refine g_skip ?_)
    refine o_assign ?_
    first | refine g_endt ?_ | refine g_end ?_
    repeat (first | refine g_endt ?_ | refine g_end ?_ | refine g_then ?_ | refine g_in_normal ?_ | refine g_then_ret ?_ | refine g_in_ret ?_ | refine g_then_exit ?_ | refine g_in_exit rfl ?_ | refine g_in_exit_ne (by decide) ?_ | refine g_seq ?_ | refine g_region ?_ | refine g_block ?_ | refine g_ret ?_ | refine g_return_n ?_ | refine g_exit ?_ | refine g_skip ?_)
    exact ret1 (K := []) rfl (resT (v := .bool false) rfl) ⟨by rw [lightE, decide_eq_false (by omega), Bool.false_and], rfl⟩
  first | refine g_seq (g_cond_f rfl (by simp; omega) ?_) | refine g_cond_f rfl (by simp; omega) ?_
  repeat (first | refine g_endt ?_ | refine g_end ?_ | refine g_then ?_ | refine g_in_normal ?_ | refine g_then_ret ?_ | refine g_in_ret ?_ | refine g_then_exit ?_ | refine g_in_exit rfl ?_ | refine g_in_exit_ne (by decide) ?_ | refine g_seq ?_ | refine g_region ?_ | refine g_block ?_ | refine g_ret ?_ | refine g_return_n ?_ | refine g_exit ?_ | refine g_skip ?_)
  refine o_assign ?_
  first | refine g_endt ?_ | refine g_end ?_
  repeat (first | refine g_endt ?_ | refine g_end ?_ | refine g_then ?_ | refine g_in_normal ?_ | refine g_then_ret ?_ | refine g_in_ret ?_ | refine g_then_exit ?_ | refine g_in_exit rfl ?_ | refine g_in_exit_ne (by decide) ?_ | refine g_seq ?_ | refine g_region ?_ | refine g_block ?_ | refine g_ret ?_ | refine g_return_n ?_ | refine g_exit ?_ | refine g_skip ?_)
  refine g_loop (σ := {i : Nat // i ≤ n ∧ ∀ (j : Nat) (y : ElemD), j < i → l[j]? = some y → shortE y = true}) (S := fun i => [(0, .slice A n c), (5, .int .i64 (i.1 : Int))]) (H := fun _ => [psl encE 12 A l]) (μ := fun i => n - i.1)
    (s0 := ⟨0, Nat.zero_le _, fun j y hj => absurd hj (Nat.not_lt_zero j)⟩) (Sat.mem ⟨rfl, rfl, trivial⟩) ?_
  rintro ⟨i, hi, hb⟩ ρ2
  dsimp only at hi hb ⊢
  repeat (first | refine g_endt ?_ | refine g_end ?_ | refine g_then ?_ | refine g_in_normal ?_ | refine g_then_ret ?_ | refine g_in_ret ?_ | refine g_then_exit ?_ | refine g_in_exit rfl ?_ | refine g_in_exit_ne (by decide) ?_ | refine g_seq ?_ | refine g_region ?_ | refine g_block ?_ | refine g_ret ?_ | refine g_return_n ?_ | refine g_exit ?_ | refine g_skip ?_)
  refine o_move ?_
  refine o_move ?_
  refine o_len rfl rfl ?_
  refine o_lss rfl rfl ?_
  first | refine g_endt ?_ | refine g_end ?_
  by_cases h : i < n
  · first | refine g_seq (g_cond_t rfl (by first | rfl | (simp; done) | (simp; omega) | (simp; assumption)) ?_) | refine g_cond_t rfl (by first | rfl | (simp; done) | (simp; omega) | (simp; assumption)) ?_
    obtain ⟨y, hy⟩ : ∃ y, l[i]? = some y := ⟨_, List.getElem?_eq_getElem (by omega)⟩
    have hil : i < l.length := by omega
    have hpos : 0 < l.length := by omega
    repeat (first | refine g_endt ?_ | refine g_end ?_ | refine g_then ?_ | refine g_in_normal ?_ | refine g_then_ret ?_ | refine g_in_ret ?_ | refine g_then_exit ?_ | refine g_in_exit rfl ?_ | refine g_in_exit_ne (by decide) ?_ | refine g_seq ?_ | refine g_block ?_ | refine g_ret ?_ | refine g_return_n ?_ | refine g_exit ?_ | refine g_skip ?_)
    refine g_cutk (σ := Unit) (ds' := []) (S := fun _ => [(0, .slice A n c), (5, .int .i64 (i : Int)), (43, .bool (!shortE y))]) (H := fun _ => [psl encE 12 A l]) (ok := fun _ => True) ?_ ?_
    · skip
      repeat (first | refine g_endt ?_ | refine g_end ?_ | refine g_then ?_ | refine g_in_normal ?_ | refine g_then_ret ?_ | refine g_in_ret ?_ | refine g_then_exit ?_ | refine g_in_exit rfl ?_ | refine g_in_exit_ne (by decide) ?_ | refine g_seq ?_ | refine g_region ?_ | refine g_block ?_ | refine g_ret ?_ | refine g_return_n ?_ | refine g_exit ?_ | refine g_skip ?_)
      refine o_move ?_
      refine o_move ?_
      refine o_indexR (ys := l) (i := i) rfl rfl rfl hil hl rfl ?_
      refine o_fieldR rfl hpos ?_
      refine o_fieldR rfl hpos ?_
      refine o_loadE1 (off := 1) (ys := l) (v := .string y.id.text) rfl hy rfl ?_
      refine o_slen rfl rfl (by kernel_rfl) ?_
      refine o_gtr rfl rfl ?_
      refine o_moveB rfl (fun h8 => ?_) (fun h8 => ?_)
      · refine o_unwanted rfl rfl rfl rfl rfl ?_
        refine o_unwanted rfl rfl rfl rfl rfl ?_
        refine o_unwanted rfl rfl rfl rfl rfl ?_
        refine o_unwanted rfl rfl rfl rfl rfl ?_
        refine o_unwanted rfl rfl rfl rfl rfl ?_
        refine o_unwanted rfl rfl rfl rfl rfl ?_
        refine o_unwanted rfl rfl rfl rfl rfl ?_
        refine o_unwanted rfl rfl rfl rfl rfl ?_
        refine o_pick_t rfl rfl ?_
        refine o_move ?_
        refine o_unwanted rfl rfl rfl rfl rfl ?_
        refine o_unwanted rfl rfl rfl rfl rfl ?_
        refine o_unwanted rfl rfl rfl rfl rfl ?_
        refine o_unwanted rfl rfl rfl rfl rfl ?_
        refine o_unwanted rfl rfl rfl rfl rfl ?_
        refine o_unwanted rfl rfl rfl rfl rfl ?_
        refine o_unwanted rfl rfl rfl rfl rfl ?_
        refine o_unwanted rfl rfl rfl rfl rfl ?_
        refine o_pick_t rfl rfl ?_
        first | refine g_endt ?_ | refine g_end ?_
        refine g_meets () trivial (Sat.mem ⟨rfl, rfl, congrArg Value.bool ?_, trivial⟩)
        ((try (simp only [decide_eq_true_eq, decide_eq_false_iff_not, ge_iff_le, gt_iff_lt] at *)); unfold shortE; generalize y.id.text.size = m1 at *; generalize y.attr.text.size = m2 at *; generalize y.value.text.size = m3 at *; rw [Bool.eq_iff_iff]; simp <;> omega)
      · refine o_want rfl rfl rfl rfl rfl <| o_move ?_
        refine o_want rfl rfl rfl rfl rfl <| o_move ?_
        refine o_want rfl rfl rfl rfl rfl <| o_indexR (ys := l) (i := i) rfl rfl rfl hil hl rfl ?_
        refine o_want rfl rfl rfl rfl rfl <| o_fieldR rfl hpos ?_
        refine o_want rfl rfl rfl rfl rfl <| o_fieldR rfl hpos ?_
        refine o_want rfl rfl rfl rfl rfl <| o_loadE1 (off := 4) (ys := l) (v := .string y.attr.text) rfl hy rfl ?_
        refine o_want rfl rfl rfl rfl rfl <| o_slen rfl rfl (by kernel_rfl) ?_
        refine o_want rfl rfl rfl rfl rfl <| o_gtr rfl rfl ?_
        refine o_pick_f rfl rfl ?_
        refine o_moveB rfl (fun h18 => ?_) (fun h18 => ?_)
        · refine o_unwanted rfl rfl rfl rfl rfl ?_
          refine o_unwanted rfl rfl rfl rfl rfl ?_
          refine o_unwanted rfl rfl rfl rfl rfl ?_
          refine o_unwanted rfl rfl rfl rfl rfl ?_
          refine o_unwanted rfl rfl rfl rfl rfl ?_
          refine o_unwanted rfl rfl rfl rfl rfl ?_
          refine o_unwanted rfl rfl rfl rfl rfl ?_
          refine o_unwanted rfl rfl rfl rfl rfl ?_
          refine o_pick_t rfl rfl ?_
          first | refine g_endt ?_ | refine g_end ?_
          refine g_meets () trivial (Sat.mem ⟨rfl, rfl, congrArg Value.bool ?_, trivial⟩)
          ((try (simp only [decide_eq_true_eq, decide_eq_false_iff_not, ge_iff_le, gt_iff_lt] at *)); unfold shortE; generalize y.id.text.size = m1 at *; generalize y.attr.text.size = m2 at *; generalize y.value.text.size = m3 at *; rw [Bool.eq_iff_iff]; simp <;> omega)
        · refine o_want rfl rfl rfl rfl rfl <| o_move ?_
          refine o_want rfl rfl rfl rfl rfl <| o_move ?_
          refine o_want rfl rfl rfl rfl rfl <| o_indexR (ys := l) (i := i) rfl rfl rfl hil hl rfl ?_
          refine o_want rfl rfl rfl rfl rfl <| o_fieldR rfl hpos ?_
          refine o_want rfl rfl rfl rfl rfl <| o_fieldR rfl hpos ?_
          refine o_want rfl rfl rfl rfl rfl <| o_loadE1 (off := 7) (ys := l) (v := .string y.value.text) rfl hy rfl ?_
          refine o_want rfl rfl rfl rfl rfl <| o_slen rfl rfl (by kernel_rfl) ?_
          refine o_want rfl rfl rfl rfl rfl <| o_gtr rfl rfl ?_
          refine o_pick_f rfl rfl ?_
          first | refine g_endt ?_ | refine g_end ?_
          refine g_meets () trivial (Sat.mem ⟨rfl, rfl, congrArg Value.bool ?_, trivial⟩)
          ((try (simp only [decide_eq_true_eq, decide_eq_false_iff_not, ge_iff_le, gt_iff_lt] at *)); unfold shortE; generalize y.id.text.size = m1 at *; generalize y.attr.text.size = m2 at *; generalize y.value.text.size = m3 at *; rw [Bool.eq_iff_iff]; simp <;> omega)
    intro _ ρ3 _
    cases hc : shortE y with
    | false =>
      first | refine g_seq (g_cond_t rfl (by first | rfl | (simp; done) | (simp; omega) | (simp; assumption)) ?_) | refine g_cond_t rfl (by first | rfl | (simp; done) | (simp; omega) | (simp; assumption)) ?_
      repeat (first | refine g_endt ?_ | refine g_end ?_ | refine g_then ?_ | refine g_in_normal ?_ | refine g_then_ret ?_ | refine g_in_ret ?_ | refine g_then_exit ?_ | refine g_in_exit rfl ?_ | refine g_in_exit_ne (by decide) ?_ | refine g_seq ?_ | refine g_region ?_ | refine g_block ?_ | refine g_ret ?_ | refine g_return_n ?_ | refine g_exit ?_ | refine g_skip ?_)
      refine o_assign ?_
      first | refine g_endt ?_ | refine g_end ?_
      repeat (first | refine g_endt ?_ | refine g_end ?_ | refine g_then ?_ | refine g_in_normal ?_ | refine g_then_ret ?_ | refine g_in_ret ?_ | refine g_then_exit ?_ | refine g_in_exit rfl ?_ | refine g_in_exit_ne (by decide) ?_ | refine g_seq ?_ | refine g_region ?_ | refine g_block ?_ | refine g_ret ?_ | refine g_return_n ?_ | refine g_exit ?_ | refine g_skip ?_)
      exact ret1 (K := []) rfl (resT (v := .bool false) rfl) ⟨by
        rw [lightE, show l.all shortE = false from List.all_eq_false.2 ⟨y, List.mem_of_getElem? hy, by rw [hc]; simp⟩, Bool.and_false], rfl⟩
    | true =>
      first | refine g_seq (g_cond_f rfl (by first | rfl | (simp; done) | (simp; omega) | (simp; assumption)) ?_) | refine g_cond_f rfl (by first | rfl | (simp; done) | (simp; omega) | (simp; assumption)) ?_
      repeat (first | refine g_endt ?_ | refine g_end ?_ | refine g_then ?_ | refine g_in_normal ?_ | refine g_then_ret ?_ | refine g_in_ret ?_ | refine g_then_exit ?_ | refine g_in_exit rfl ?_ | refine g_in_exit_ne (by decide) ?_ | refine g_seq ?_ | refine g_region ?_ | refine g_block ?_ | refine g_ret ?_ | refine g_return_n ?_ | refine g_exit ?_ | refine g_skip ?_)
      refine o_move ?_
      refine o_add (c := ((i + 1 : Nat) : Int)) rfl rfl (by omega) (by omega) (by omega) ?_
      refine o_assign ?_
      first | refine g_endt ?_ | refine g_end ?_
      repeat (first | refine g_endt ?_ | refine g_end ?_ | refine g_then ?_ | refine g_in_normal ?_ | refine g_then_ret ?_ | refine g_in_ret ?_ | refine g_then_exit ?_ | refine g_in_exit rfl ?_ | refine g_in_exit_ne (by decide) ?_ | refine g_seq ?_ | refine g_region ?_ | refine g_block ?_ | refine g_ret ?_ | refine g_return_n ?_ | refine g_exit ?_ | refine g_skip ?_)
      have hn : ∀ (j : Nat) (z : ElemD), j < i + 1 → l[j]? = some z → shortE z = true := fun j z hj hz => by
        by_cases e : j = i
        · subst e; rw [hy] at hz; cases hz; exact hc
        · exact hb j z (by omega) hz
      exact g_meets (⟨i + 1, h, hn⟩) (by first | exact trivial | (dsimp only; omega)) (Sat.mem (by repeat (first | exact trivial | refine And.intro rfl ?_)))
  · first | refine g_seq (g_cond_f rfl (by simp; omega) ?_) | refine g_cond_f rfl (by simp; omega) ?_
    repeat (first | refine g_endt ?_ | refine g_end ?_ | refine g_then ?_ | refine g_in_normal ?_ | refine g_then_ret ?_ | refine g_in_ret ?_ | refine g_then_exit ?_ | refine g_in_exit rfl ?_ | refine g_in_exit_ne (by decide) ?_ | refine g_seq ?_ | refine g_region ?_ | refine g_block ?_ | refine g_ret ?_ | refine g_return_n ?_ | refine g_exit ?_ | refine g_skip ?_)
    refine o_assign ?_
    first | refine g_endt ?_ | refine g_end ?_
    repeat (first | refine g_endt ?_ | refine g_end ?_ | refine g_then ?_ | refine g_in_normal ?_ | refine g_then_ret ?_ | refine g_in_ret ?_ | refine g_then_exit ?_ | refine g_in_exit rfl ?_ | refine g_in_exit_ne (by decide) ?_ | refine g_seq ?_ | refine g_region ?_ | refine g_block ?_ | refine g_ret ?_ | refine g_return_n ?_ | refine g_exit ?_ | refine g_skip ?_)
    exact ret1 (K := []) rfl (resT (v := .bool true) rfl) ⟨by
      rw [lightE, decide_eq_true (by omega), Bool.true_and, List.all_eq_true.2 fun y hy => ?_]
      obtain ⟨j, hj⟩ := List.mem_iff_getElem?.1 hy
      exact hb j y (by have := (List.getElem?_eq_some_iff.1 hj).1; omega) hj, rfl⟩
theorem Light_spec (A : Option Addr) (n c most : Nat) (l : List ElemD) (hl : l.length = n) (hm : n ≤ 9223372036854775807) (hk : most ≤ 1000000) : Ctr Try.prog 26 [.slice A n c, .int .i64 (most : Int)] [psl encE 12 A l] (fun v M => v = .bool (lightE l most) ∧ M = []) := by
  refine spec_of Try.func26 rfl Try.ntmps26 rfl fun w0 F => ?_
  -- ponder/ponderlaw10.Light
  repeat (first | refine g_endt ?_ | refine g_end ?_ | refine g_then ?_ | refine g_in_normal ?_ | refine g_then_ret ?_ | refine g_in_ret ?_ | refine g_then_exit ?_ | refine g_in_exit rfl ?_ | refine g_in_exit_ne (by decide) ?_ | refine g_seq ?_ | refine g_region ?_ | refine g_block ?_ | refine g_ret ?_ | refine g_return_n ?_ | refine g_exit ?_ | refine g_skip ?_)
  refine o_assign ?_
  first | refine g_endt ?_ | refine g_end ?_
  repeat (first | refine g_endt ?_ | refine g_end ?_ | refine g_then ?_ | refine g_in_normal ?_ | refine g_then_ret ?_ | refine g_in_ret ?_ | refine g_then_exit ?_ | refine g_in_exit rfl ?_ | refine g_in_exit_ne (by decide) ?_ | refine g_seq ?_ | refine g_region ?_ | refine g_block ?_ | refine g_ret ?_ | refine g_return_n ?_ | refine g_exit ?_ | refine g_skip ?_)
  refine o_move ?_
  refine o_move ?_
  refine o_callp (light_spec A n c most l hl hm hk) rfl rfl ?_
  rintro _ _ ⟨rfl, rfl⟩
  refine o_assign ?_
  first | refine g_endt ?_ | refine g_end ?_
  repeat (first | refine g_endt ?_ | refine g_end ?_ | refine g_then ?_ | refine g_in_normal ?_ | refine g_then_ret ?_ | refine g_in_ret ?_ | refine g_then_exit ?_ | refine g_in_exit rfl ?_ | refine g_in_exit_ne (by decide) ?_ | refine g_seq ?_ | refine g_region ?_ | refine g_block ?_ | refine g_ret ?_ | refine g_return_n ?_ | refine g_exit ?_ | refine g_skip ?_)
  exact ret1 (K := []) rfl (resT rfl) ⟨rfl, rfl⟩
end Go.Proofs.Ytfakoemkapankaa
/- Members of an ordered set. -/
namespace Go.Proofs.Ytfakoemkapankaa
open Go Go.Sl

def ElemD.enc (p : ElemD) : List Value := p.val.cells.toList
def ElemD.enc' (p : ElemD) : List Value := [p.val]
instance : EncLen ElemD.enc 12 := ⟨fun _ => rfl, fun e u h => by simp [ElemD.enc, ElemD.val, Value.cells] at h; rcases h with h | h | h | h | h | h | h | h | h | h | h | h <;> subst h <;> rfl⟩
theorem ElemD.lin : LinCmp ElemD.cmp := linElem
theorem ElemD.cmp_spec (a b : ElemD) : Ctr Try.prog 259 [a.val, b.val] [] (fun v M => v = .int .i64 (a.cmp b) ∧ M = []) := CompareElem_spec a b
end Go.Proofs.Ytfakoemkapankaa
/- An ordered set's functions, for one type of members: find, own. -/
namespace Go.Proofs.Ytfakoemkapankaa
open Go Go.Sl
attribute [local irreducible] Code.wpIn roundPost bodyPostM runL Ret Meets Begin

abbrev SetAES (p : Nat) (ys : List ElemD) : SProp := SetP 219 35 ElemD.enc 12 p ys
section
variable {w0 : World} {A : SProp} {L M : List SProp} {Φ : World → Prop}
theorem openES (p : Nat) (ys : List ElemD) [tk : Take1 L (SetAES p ys) M] (h : ∀ S c b, G w0 A (cellsB p #[.slice S ys.length c, .bool b] 219 :: row 35 ElemD.enc 12 b S c ys :: M) Φ) : G w0 A L Φ := SetP.open h
theorem shutES (p : Nat) (ys : List ElemD) (S : Option Addr) (c : Nat) (b : Bool) {len : Nat} (hl : ys.length = len) [tk : Take L [cellsB p #[.slice S len c, .bool b] 219, row 35 ElemD.enc 12 b S c ys] M] (h : G w0 A (SetAES p ys :: M) Φ) : G w0 A L Φ := SetP.shut (S := S) (c := c) (b := b) hl h
theorem shutFES (p : Nat) (ys : List ElemD) (S : Option Addr) (c : Nat) {len : Nat} (hl : ys.length = len) [tk : Take L [cellsB p #[.slice S len c, .bool false] 219, osl 35 ElemD.enc 12 S c ys] M] (h : G w0 A (SetAES p ys :: M) Φ) : G w0 A L Φ := SetP.shut (S := S) (c := c) (b := false) hl (tk := tk) h
theorem shutTES (p : Nat) (ys : List ElemD) (S : Option Addr) (c : Nat) {len : Nat} (hl : ys.length = len) [tk : Take L [cellsB p #[.slice S len c, .bool true] 219, psl ElemD.enc 12 S ys] M] (h : G w0 A (SetAES p ys :: M) Φ) : G w0 A L Φ := SetP.shut (S := S) (c := c) (b := true) hl (tk := tk) h
end
theorem findES_spec (p : Nat) (ys : List ElemD) (x : ElemD) (hs : Srt ElemD.cmp ys) (hl : ys.length ≤ 1000000000) : Ctr Try.prog 166 [.pointer (some ⟨p, 0, none⟩), x.val] [SetAES p ys]
    (fun v M => ∃ (k : Nat) (there : Bool), v = .tuple #[.int .i64 (k : Int), .bool there] ∧ M = [SetAES p ys] ∧ FindR ElemD.cmp ys x k there) := by
  refine spec_of Try.func166 rfl Try.ntmps166 rfl fun w0 F => ?_
  repeat (first | refine g_endt ?_ | refine g_end ?_ | refine g_then ?_ | refine g_in_normal ?_ | refine g_then_ret ?_ | refine g_in_ret ?_ | refine g_then_exit ?_ | refine g_in_exit rfl ?_ | refine g_in_exit_ne (by decide) ?_ | refine g_seq ?_ | refine g_region ?_ | refine g_block ?_ | refine g_ret ?_ | refine g_return_n ?_ | refine g_exit ?_ | refine g_skip ?_)
  refine openES p ys fun S c b => ?_
  refine o_boxc x.val.cells rfl rfl fun q => ?_
  refine o_assign ?_
  refine o_assign ?_
  first | refine g_endt ?_ | refine g_end ?_
  repeat (first | refine g_endt ?_ | refine g_end ?_ | refine g_then ?_ | refine g_in_normal ?_ | refine g_then_ret ?_ | refine g_in_ret ?_ | refine g_then_exit ?_ | refine g_in_exit rfl ?_ | refine g_in_exit_ne (by decide) ?_ | refine g_seq ?_ | refine g_region ?_ | refine g_block ?_ | refine g_ret ?_ | refine g_return_n ?_ | refine g_exit ?_ | refine g_skip ?_)
  refine g_draw [] [0,1,2,3,4,5,6] [cellsB p #[.slice S ys.length c, .bool b] 219] mixed rfl ?_
  refine ob_q rfl rfl ⟨_, fun X Q h => o_move (g_end (h _ _ ⟨rfl, rfl⟩)), ?_⟩
  refine ob_q rfl rfl ⟨_, fun X Q h => o_nil rfl (g_end (h _ _ ⟨rfl, rfl⟩)), ?_⟩
  refine ob_q rfl rfl ⟨_, fun X Q h => o_field rfl (g_end (h _ _ ⟨rfl, rfl⟩)), ?_⟩
  refine ob_q rfl rfl ⟨_, fun X Q h => o_load1 rfl rfl (g_end (h _ _ ⟨rfl, rfl⟩)), ?_⟩
  refine ob_q rfl rfl ⟨_, fun X Q h => o_len rfl rfl (g_end (h _ _ ⟨rfl, rfl⟩)), ?_⟩
  refine ob_q rfl rfl ⟨_, fun X Q h => o_assign (g_end (h _ _ ⟨rfl, rfl⟩)), ?_⟩
  refine ob_q rfl rfl ⟨_, fun X Q h => o_assign (g_end (h _ _ ⟨rfl, rfl⟩)), ?_⟩
  refine ob_nil ?_
  repeat (first | refine g_endt ?_ | refine g_end ?_ | refine g_then ?_ | refine g_in_normal ?_ | refine g_then_ret ?_ | refine g_in_ret ?_ | refine g_then_exit ?_ | refine g_in_exit rfl ?_ | refine g_in_exit_ne (by decide) ?_ | refine g_seq ?_ | refine g_region ?_ | refine g_block ?_ | refine g_ret ?_ | refine g_return_n ?_ | refine g_exit ?_ | refine g_skip ?_)
  refine g_loop (σ := {s : Nat × Nat // s.1 ≤ s.2 ∧ s.2 ≤ ys.length ∧ (∀ (j : Nat) (y : ElemD), j < s.1 → ys[j]? = some y → ElemD.cmp y x < 0) ∧ ∀ (j : Nat) (y : ElemD), s.2 ≤ j → ys[j]? = some y → 0 < ElemD.cmp y x})
    (S := fun s => [(0, .pointer (some ⟨p, 0, none⟩)), (3, .pointer (some ⟨q, 0, none⟩)), (6, .int .i64 (s.1.1 : Int)), (7, .int .i64 (s.1.2 : Int))])
    (H := fun _ => [cellsB p #[.slice S ys.length c, .bool b] 219, row 35 ElemD.enc 12 b S c ys, cellsB q x.val.cells 35]) (μ := fun s => s.1.2 - s.1.1)
    (s0 := ⟨(0, ys.length), Nat.zero_le _, Nat.le_refl _, fun j y h => absurd h (Nat.not_lt_zero j), fun j y h e => by rw [List.getElem?_eq_none h] at e; cases e⟩) (Sat.mem ⟨rfl, rfl, rfl, rfl, trivial⟩) ?_
  rintro ⟨⟨lo, hi⟩, h1, h2, h3, h4⟩ ρ'
  dsimp only at h1 h2 h3 h4 ⊢
  repeat (first | refine g_endt ?_ | refine g_end ?_ | refine g_then ?_ | refine g_in_normal ?_ | refine g_then_ret ?_ | refine g_in_ret ?_ | refine g_then_exit ?_ | refine g_in_exit rfl ?_ | refine g_in_exit_ne (by decide) ?_ | refine g_seq ?_ | refine g_region ?_ | refine g_block ?_ | refine g_ret ?_ | refine g_return_n ?_ | refine g_exit ?_ | refine g_skip ?_)
  refine o_move ?_
  refine o_move ?_
  refine o_lss rfl rfl ?_
  first | refine g_endt ?_ | refine g_end ?_
  by_cases h : lo < hi
  · first | refine g_seq (g_cond_t rfl (by simpa using h) ?_) | refine g_cond_t rfl (by simpa using h) ?_
    repeat (first | refine g_endt ?_ | refine g_end ?_ | refine g_then ?_ | refine g_in_normal ?_ | refine g_then_ret ?_ | refine g_in_ret ?_ | refine g_then_exit ?_ | refine g_in_exit rfl ?_ | refine g_in_exit_ne (by decide) ?_ | refine g_seq ?_ | refine g_region ?_ | refine g_block ?_ | refine g_ret ?_ | refine g_return_n ?_ | refine g_exit ?_ | refine g_skip ?_)
    refine o_move ?_
    refine o_move ?_
    refine o_move ?_
    refine o_sub (c := ((hi - lo : Nat) : Int)) rfl rfl (by omega) (by omega) (by omega) ?_
    refine o_quo (c := (((hi - lo) / 2 : Nat) : Int)) rfl rfl (by decide) (by rw [Int.tdiv_eq_ediv_of_nonneg (by omega)]; omega) (by omega) (by omega) ?_
    refine o_add (c := ((lo + (hi - lo) / 2 : Nat) : Int)) rfl rfl (by omega) (by omega) (by omega) ?_
    generalize hmid : lo + (hi - lo) / 2 = mid
    have hm1 : lo ≤ mid := by omega
    have hm2 : mid < hi := by omega
    have hm3 : mid < ys.length := by omega
    obtain ⟨y, hy⟩ : ∃ y, ys[mid]? = some y := ⟨_, List.getElem?_eq_getElem hm3⟩
    refine o_assign ?_
    refine g_endt ?_
    repeat (first | refine g_endt ?_ | refine g_end ?_ | refine g_then ?_ | refine g_in_normal ?_ | refine g_then_ret ?_ | refine g_in_ret ?_ | refine g_then_exit ?_ | refine g_in_exit rfl ?_ | refine g_in_exit_ne (by decide) ?_ | refine g_seq ?_ | refine g_region ?_ | refine g_block ?_ | refine g_ret ?_ | refine g_return_n ?_ | refine g_exit ?_ | refine g_skip ?_)
    refine g_draw [] [0,1,2,3,4,5,6,7,8,9,10] [cellsB p #[.slice S ys.length c, .bool b] 219, row 35 ElemD.enc 12 b S c ys, cellsB q x.val.cells 35] mixed rfl ?_
    refine ob_q rfl rfl ⟨_, fun X Q h => o_move (g_end (h _ _ ⟨rfl, rfl⟩)), ?_⟩
    refine ob_q rfl rfl ⟨_, fun X Q h => o_nil rfl (g_end (h _ _ ⟨rfl, rfl⟩)), ?_⟩
    refine ob_q rfl rfl ⟨_, fun X Q h => o_field rfl (g_end (h _ _ ⟨rfl, rfl⟩)), ?_⟩
    refine ob_q rfl rfl ⟨_, fun X Q h => o_load1 (v := .slice S ys.length c) rfl rfl (g_end (h _ _ ⟨rfl, rfl⟩)), ?_⟩
    refine ob_q rfl rfl ⟨_, fun X Q h => o_move (g_end (h _ _ ⟨rfl, rfl⟩)), ?_⟩
    refine ob_q rfl rfl ⟨_, fun X Q h => o_indexR (ys := ys) (i := mid) rfl rfl rfl hm3 rfl rfl (g_end (h _ _ ⟨rfl, rfl⟩)), ?_⟩
    refine ob_q rfl rfl ⟨_, fun X Q h => o_loadE (ys := ys) rfl rfl hy (g_end (h _ _ ⟨rfl, rfl⟩)), ?_⟩
    refine ob_q rfl rfl ⟨_, fun X Q h => o_iface (u := y.val) rfl (fun w => by kernel_rfl) (g_end (h _ _ ⟨rfl, rfl⟩)), ?_⟩
    refine ob_q rfl rfl ⟨_, fun X Q h => o_loadN (v := x.val) rfl rfl rfl (g_end (h _ _ ⟨rfl, rfl⟩)), ?_⟩
    refine ob_q rfl rfl ⟨_, fun X Q h => o_invoke (ElemD.cmp_spec y x) rfl rfl (fun w => by kernel_rfl) <| by rintro _ _ ⟨rfl, rfl⟩; exact (g_end (h _ _ ⟨rfl, rfl⟩)), ?_⟩
    refine ob_q rfl rfl ⟨_, fun X Q h => o_assign (g_end (h _ _ ⟨rfl, rfl⟩)), ?_⟩
    refine ob_nil ?_
    repeat (first | refine g_endt ?_ | refine g_end ?_ | refine g_then ?_ | refine g_in_normal ?_ | refine g_then_ret ?_ | refine g_in_ret ?_ | refine g_then_exit ?_ | refine g_in_exit rfl ?_ | refine g_in_exit_ne (by decide) ?_ | refine g_seq ?_ | refine g_region ?_ | refine g_block ?_ | refine g_ret ?_ | refine g_return_n ?_ | refine g_exit ?_ | refine g_skip ?_)
    refine o_move ?_
    refine o_eql rfl rfl ?_
    first | refine g_endt ?_ | refine g_end ?_
    by_cases hc : ElemD.cmp y x = 0
    · first | refine g_seq (g_cond_t rfl (by simpa using hc) ?_) | refine g_cond_t rfl (by simpa using hc) ?_
      repeat (first | refine g_endt ?_ | refine g_end ?_ | refine g_then ?_ | refine g_in_normal ?_ | refine g_then_ret ?_ | refine g_in_ret ?_ | refine g_then_exit ?_ | refine g_in_exit rfl ?_ | refine g_in_exit_ne (by decide) ?_ | refine g_seq ?_ | refine g_region ?_ | refine g_block ?_ | refine g_ret ?_ | refine g_return_n ?_ | refine g_exit ?_ | refine g_skip ?_)
      refine o_move ?_
      refine o_assign ?_
      refine o_assign ?_
      first | refine g_endt ?_ | refine g_end ?_
      refine shutES p ys S c b rfl ?_
      repeat (first | refine g_endt ?_ | refine g_end ?_ | refine g_then ?_ | refine g_in_normal ?_ | refine g_then_ret ?_ | refine g_in_ret ?_ | refine g_then_exit ?_ | refine g_in_exit rfl ?_ | refine g_in_exit_ne (by decide) ?_ | refine g_seq ?_ | refine g_region ?_ | refine g_block ?_ | refine g_ret ?_ | refine g_return_n ?_ | refine g_exit ?_ | refine g_skip ?_)
      exact ret2 rfl (resT rfl) (resT rfl) ⟨mid, true, rfl, rfl, by omega, fun _ => ⟨y, hy, hc⟩, fun e => by cases e⟩
    · first | refine g_seq (g_cond_f rfl (by simpa using hc) ?_) | refine g_cond_f rfl (by simpa using hc) ?_
      repeat (first | refine g_endt ?_ | refine g_end ?_ | refine g_then ?_ | refine g_in_normal ?_ | refine g_then_ret ?_ | refine g_in_ret ?_ | refine g_then_exit ?_ | refine g_in_exit rfl ?_ | refine g_in_exit_ne (by decide) ?_ | refine g_seq ?_ | refine g_region ?_ | refine g_block ?_ | refine g_ret ?_ | refine g_return_n ?_ | refine g_exit ?_ | refine g_skip ?_)
      refine o_move ?_
      refine o_lss rfl rfl ?_
      first | refine g_endt ?_ | refine g_end ?_
      by_cases hn : ElemD.cmp y x < 0
      · first | refine g_seq (g_cond_t rfl (by simpa using hn) ?_) | refine g_cond_t rfl (by simpa using hn) ?_
        repeat (first | refine g_endt ?_ | refine g_end ?_ | refine g_then ?_ | refine g_in_normal ?_ | refine g_then_ret ?_ | refine g_in_ret ?_ | refine g_then_exit ?_ | refine g_in_exit rfl ?_ | refine g_in_exit_ne (by decide) ?_ | refine g_seq ?_ | refine g_region ?_ | refine g_block ?_ | refine g_ret ?_ | refine g_return_n ?_ | refine g_exit ?_ | refine g_skip ?_)
        refine o_move ?_
        refine o_add (c := ((mid + 1 : Nat) : Int)) rfl rfl (by omega) (by omega) (by omega) ?_
        refine o_assign ?_
        first | refine g_endt ?_ | refine g_end ?_
        repeat (first | refine g_endt ?_ | refine g_end ?_ | refine g_then ?_ | refine g_in_normal ?_ | refine g_then_ret ?_ | refine g_in_ret ?_ | refine g_then_exit ?_ | refine g_in_exit rfl ?_ | refine g_in_exit_ne (by decide) ?_ | refine g_seq ?_ | refine g_region ?_ | refine g_block ?_ | refine g_ret ?_ | refine g_return_n ?_ | refine g_exit ?_ | refine g_skip ?_)
        refine g_meets ⟨(mid + 1, hi), by show mid + 1 ≤ hi; omega, h2, fun j y' hj hy' => ?_, h4⟩ (by show hi - (mid + 1) < hi - lo; omega) (Sat.mem ⟨rfl, rfl, rfl, rfl, trivial⟩)
        by_cases e : j = mid
        · subst e; rw [hy] at hy'; cases hy'; exact hn
        · exact ElemD.lin.trans _ _ _ (hs j mid y' y (by dsimp only at hj; omega) hy' hy) hn
      · first | refine g_seq (g_cond_f rfl (by simpa using hn) ?_) | refine g_cond_f rfl (by simpa using hn) ?_
        repeat (first | refine g_endt ?_ | refine g_end ?_ | refine g_then ?_ | refine g_in_normal ?_ | refine g_then_ret ?_ | refine g_in_ret ?_ | refine g_then_exit ?_ | refine g_in_exit rfl ?_ | refine g_in_exit_ne (by decide) ?_ | refine g_seq ?_ | refine g_region ?_ | refine g_block ?_ | refine g_ret ?_ | refine g_return_n ?_ | refine g_exit ?_ | refine g_skip ?_)
        refine o_move ?_
        refine o_assign ?_
        first | refine g_endt ?_ | refine g_end ?_
        repeat (first | refine g_endt ?_ | refine g_end ?_ | refine g_then ?_ | refine g_in_normal ?_ | refine g_then_ret ?_ | refine g_in_ret ?_ | refine g_then_exit ?_ | refine g_in_exit rfl ?_ | refine g_in_exit_ne (by decide) ?_ | refine g_seq ?_ | refine g_region ?_ | refine g_block ?_ | refine g_ret ?_ | refine g_return_n ?_ | refine g_exit ?_ | refine g_skip ?_)
        refine g_meets ⟨(lo, mid), hm1, by show mid ≤ ys.length; omega, h3, fun j y' hj hy' => ?_⟩ (by show mid - lo < hi - lo; omega) (Sat.mem ⟨rfl, rfl, rfl, rfl, trivial⟩)
        by_cases e : j = mid
        · subst e; rw [hy] at hy'; cases hy'; omega
        · have h5 := hs mid j y y' (by dsimp only at hj; omega) hy hy'
          have h6 := ElemD.lin.swap x y
          have h7 := ElemD.lin.trans x y y' (by omega) h5
          have h8 := ElemD.lin.swap x y'
          omega
  · first | refine g_seq (g_cond_f rfl (by simpa using h) ?_) | refine g_cond_f rfl (by simpa using h) ?_
    have e : lo = hi := by omega
    subst e
    repeat (first | refine g_endt ?_ | refine g_end ?_ | refine g_then ?_ | refine g_in_normal ?_ | refine g_then_ret ?_ | refine g_in_ret ?_ | refine g_then_exit ?_ | refine g_in_exit rfl ?_ | refine g_in_exit_ne (by decide) ?_ | refine g_seq ?_ | refine g_region ?_ | refine g_block ?_ | refine g_ret ?_ | refine g_return_n ?_ | refine g_exit ?_ | refine g_skip ?_)
    refine o_move ?_
    refine o_assign ?_
    refine o_assign ?_
    first | refine g_endt ?_ | refine g_end ?_
    refine shutES p ys S c b rfl ?_
    repeat (first | refine g_endt ?_ | refine g_end ?_ | refine g_then ?_ | refine g_in_normal ?_ | refine g_then_ret ?_ | refine g_in_ret ?_ | refine g_then_exit ?_ | refine g_in_exit rfl ?_ | refine g_in_exit_ne (by decide) ?_ | refine g_seq ?_ | refine g_region ?_ | refine g_block ?_ | refine g_ret ?_ | refine g_return_n ?_ | refine g_exit ?_ | refine g_skip ?_)
    exact ret2 rfl (resT rfl) (resT rfl) ⟨lo, false, rfl, rfl, h2, fun e => (by cases e), fun _ => ⟨h3, h4⟩⟩
end Go.Proofs.Ytfakoemkapankaa
/- An ordered set's functions, for one type of members: own, Put. -/
namespace Go.Proofs.Ytfakoemkapankaa
open Go Go.Sl
attribute [local irreducible] Code.wpIn roundPost bodyPostM runL Ret Meets Begin

theorem ownES_spec (p : Nat) (ys : List ElemD) (hl : ys.length ≤ 1000000000) : Ctr Try.prog 167 [.pointer (some ⟨p, 0, none⟩)] [SetAES p ys]
    (fun _ M => ∃ (S : Option Addr) (c : Nat), M = [cellsB p #[.slice S ys.length c, .bool false] 219, osl 35 ElemD.enc 12 S c ys]) := by
  refine spec_of Try.func167 rfl Try.ntmps167 rfl fun w0 F => ?_
  repeat (first | refine g_endt ?_ | refine g_end ?_ | refine g_then ?_ | refine g_in_normal ?_ | refine g_then_ret ?_ | refine g_in_ret ?_ | refine g_then_exit ?_ | refine g_in_exit rfl ?_ | refine g_in_exit_ne (by decide) ?_ | refine g_seq ?_ | refine g_region ?_ | refine g_block ?_ | refine g_ret ?_ | refine g_return_n ?_ | refine g_exit ?_ | refine g_skip ?_)
  refine openES p ys fun S c b => ?_
  refine o_move ?_
  refine o_nil rfl ?_
  refine o_field rfl ?_
  refine o_load1 (v := .bool b) rfl rfl ?_
  refine g_endt ?_
  cases b
  · first | refine g_seq (g_cond_f rfl (rfl) ?_) | refine g_cond_f rfl (rfl) ?_
    change G _ _ [cellsB p #[.slice S ys.length c, .bool false] 219, osl 35 ElemD.enc 12 S c ys] _
    repeat (first | refine g_endt ?_ | refine g_end ?_ | refine g_then ?_ | refine g_in_normal ?_ | refine g_then_ret ?_ | refine g_in_ret ?_ | refine g_then_exit ?_ | refine g_in_exit rfl ?_ | refine g_in_exit_ne (by decide) ?_ | refine g_seq ?_ | refine g_region ?_ | refine g_block ?_ | refine g_ret ?_ | refine g_return_n ?_ | refine g_exit ?_ | refine g_skip ?_)
    exact ret0 rfl ⟨S, c, rfl⟩
  · first | refine g_seq (g_cond_t rfl (rfl) ?_) | refine g_cond_t rfl (rfl) ?_
    change G _ _ [cellsB p #[.slice S ys.length c, .bool true] 219, psl ElemD.enc 12 S ys] _
    repeat (first | refine g_endt ?_ | refine g_end ?_ | refine g_then ?_ | refine g_in_normal ?_ | refine g_then_ret ?_ | refine g_in_ret ?_ | refine g_then_exit ?_ | refine g_in_exit rfl ?_ | refine g_in_exit_ne (by decide) ?_ | refine g_seq ?_ | refine g_region ?_ | refine g_block ?_ | refine g_ret ?_ | refine g_return_n ?_ | refine g_exit ?_ | refine g_skip ?_)
    refine g_draw [7, 12, 15] [0,1,2,3,4,5,6,8,9,10,11,7,12,13,14,15] [cellsB p #[.slice S ys.length c, .bool true] 219, psl ElemD.enc 12 S ys] mixed rfl ?_
    refine ob_q rfl rfl ⟨_, fun X Q h => o_move (g_end (h _ _ ⟨rfl, rfl⟩)), ?_⟩
    refine ob_q rfl rfl ⟨_, fun X Q h => o_move (g_end (h _ _ ⟨rfl, rfl⟩)), ?_⟩
    refine ob_q rfl rfl ⟨_, fun X Q h => o_nil rfl (g_end (h _ _ ⟨rfl, rfl⟩)), ?_⟩
    refine ob_q rfl rfl ⟨_, fun X Q h => o_field rfl (g_end (h _ _ ⟨rfl, rfl⟩)), ?_⟩
    refine ob_q rfl rfl ⟨_, fun X Q h => o_load1 (v := .slice S ys.length c) rfl rfl (g_end (h _ _ ⟨rfl, rfl⟩)), ?_⟩
    refine ob_q rfl rfl ⟨_, fun X Q h => o_len rfl rfl (g_end (h _ _ ⟨rfl, rfl⟩)), ?_⟩
    refine ob_q rfl rfl ⟨_, fun X Q h => o_add (c := ((ys.length + 1 : Nat) : Int)) rfl rfl (by omega) (by omega) (by omega) (g_end (h _ _ ⟨rfl, rfl⟩)), ?_⟩
    refine ob_q rfl rfl ⟨_, fun X Q h => o_move (g_end (h _ _ ⟨rfl, rfl⟩)), ?_⟩
    refine ob_q rfl rfl ⟨_, fun X Q h => o_nil rfl (g_end (h _ _ ⟨rfl, rfl⟩)), ?_⟩
    refine ob_q rfl rfl ⟨_, fun X Q h => o_field rfl (g_end (h _ _ ⟨rfl, rfl⟩)), ?_⟩
    refine ob_q rfl rfl ⟨_, fun X Q h => o_load1 (v := .slice S ys.length c) rfl rfl (g_end (h _ _ ⟨rfl, rfl⟩)), ?_⟩
    refine ob_l rfl rfl fun Qz hz => o_make0 (α := ElemD) (enc := ElemD.enc) rfl rfl rfl (by omega) (by simp [maxLen]; omega) fun T => g_end (hz _ _ ⟨_, ob_fin, ?_⟩)
    clear hz Qz
    refine ob_l rfl rfl fun Qz hz => o_append0 (ys := ys) rfl rfl rfl rfl rfl (by simp [maxLen]; omega) (by omega) fun U d => g_end (hz _ _ ⟨_, ob_fin, ?_⟩)
    clear hz Qz
    refine ob_q rfl rfl ⟨_, fun X Q h => o_nil rfl (g_end (h _ _ ⟨rfl, rfl⟩)), ?_⟩
    refine ob_q rfl rfl ⟨_, fun X Q h => o_field rfl (g_end (h _ _ ⟨rfl, rfl⟩)), ?_⟩
    refine ob_s ([]) rfl rfl rfl fun Qz hz => o_store (v := .slice U ys.length d) rfl rfl rfl rfl rfl <| g_end (hz _ _ ⟨_, ob_fin, ?_⟩)
    clear hz Qz
    refine ob_nil ?_
    repeat (first | refine g_endt ?_ | refine g_end ?_ | refine g_then ?_ | refine g_in_normal ?_ | refine g_then_ret ?_ | refine g_in_ret ?_ | refine g_then_exit ?_ | refine g_in_exit rfl ?_ | refine g_in_exit_ne (by decide) ?_ | refine g_seq ?_ | refine g_region ?_ | refine g_block ?_ | refine g_ret ?_ | refine g_return_n ?_ | refine g_exit ?_ | refine g_skip ?_)
    refine o_move ?_
    refine o_nil rfl ?_
    refine o_field rfl ?_
    refine o_store rfl rfl rfl rfl rfl ?_
    first | refine g_endt ?_ | refine g_end ?_
    repeat (first | refine g_endt ?_ | refine g_end ?_ | refine g_then ?_ | refine g_in_normal ?_ | refine g_then_ret ?_ | refine g_in_ret ?_ | refine g_then_exit ?_ | refine g_in_exit rfl ?_ | refine g_in_exit_ne (by decide) ?_ | refine g_seq ?_ | refine g_region ?_ | refine g_block ?_ | refine g_ret ?_ | refine g_return_n ?_ | refine g_exit ?_ | refine g_skip ?_)
    refine G.norm p #[.slice U ys.length d, .bool false] rfl ?_
    exact ret0 rfl ⟨U, d, rfl⟩
end Go.Proofs.Ytfakoemkapankaa
/- An ordered set's functions, for one type of members: Put. -/
namespace Go.Proofs.Ytfakoemkapankaa
open Go Go.Sl
attribute [local irreducible] Code.wpIn roundPost bodyPostM runL Ret Meets Begin

theorem take_snocPES {α : Type} (ys : List α) (i : Nat) (y : α) (h : ys[i]? = some y) : ys.take (i + 1) = ys.take i ++ [y] := by rw [List.take_add_one, h]; rfl
theorem gapES (ys : List ElemD) (i : Nat) (w y : ElemD) (hi : i < ys.length) (hy : ys[i]? = some y) : (ys.take (i + 1) ++ w :: ys.drop (i + 1)).set (i + 1) y = ys.take i ++ y :: ys.drop i := by
  have h1 : (ys.take (i + 1)).length = i + 1 := by simp; omega
  have h2 : ys.drop i = y :: ys.drop (i + 1) := by
    rw [List.drop_eq_getElem_cons hi]
    rw [List.getElem?_eq_getElem hi] at hy
    cases hy
    rfl
  rw [List.set_append_right _ _ (by omega), h1, Nat.sub_self, List.set_cons_zero, take_snocPES ys i y hy, h2]
  simp
theorem PutES_spec (p : Nat) (ys : List ElemD) (x : ElemD) (hs : Srt ElemD.cmp ys) (hl : ys.length < 1000000000) : Ctr Try.prog 108 [.pointer (some ⟨p, 0, none⟩), x.val] [SetAES p ys]
    (fun v M => ∃ (k : Nat) (there : Bool), v = .bool !there ∧ M = [SetAES p (cond there ys (ys.take k ++ x :: ys.drop k))] ∧ FindR ElemD.cmp ys x k there) := by
  refine spec_of Try.func108 rfl Try.ntmps108 rfl fun w0 F => ?_
  repeat (first | refine g_endt ?_ | refine g_end ?_ | refine g_then ?_ | refine g_in_normal ?_ | refine g_then_ret ?_ | refine g_in_ret ?_ | refine g_then_exit ?_ | refine g_in_exit rfl ?_ | refine g_in_exit_ne (by decide) ?_ | refine g_seq ?_ | refine g_region ?_ | refine g_block ?_ | refine g_ret ?_ | refine g_return_n ?_ | refine g_exit ?_ | refine g_skip ?_)
  refine o_boxc x.val.cells rfl rfl fun q => ?_
  refine o_assign ?_
  first | refine g_endt ?_ | refine g_end ?_
  repeat (first | refine g_endt ?_ | refine g_end ?_ | refine g_then ?_ | refine g_in_normal ?_ | refine g_then_ret ?_ | refine g_in_ret ?_ | refine g_then_exit ?_ | refine g_in_exit rfl ?_ | refine g_in_exit_ne (by decide) ?_ | refine g_seq ?_ | refine g_region ?_ | refine g_block ?_ | refine g_ret ?_ | refine g_return_n ?_ | refine g_exit ?_ | refine g_skip ?_)
  refine o_move ?_
  refine o_peql rfl ?_
  first | refine g_endt ?_ | refine g_end ?_
  first | refine g_seq (g_cond_f rfl (rfl) ?_) | refine g_cond_f rfl (rfl) ?_
  repeat (first | refine g_endt ?_ | refine g_end ?_ | refine g_then ?_ | refine g_in_normal ?_ | refine g_then_ret ?_ | refine g_in_ret ?_ | refine g_then_exit ?_ | refine g_in_exit rfl ?_ | refine g_in_exit_ne (by decide) ?_ | refine g_seq ?_ | refine g_region ?_ | refine g_block ?_ | refine g_ret ?_ | refine g_return_n ?_ | refine g_exit ?_ | refine g_skip ?_)
  refine o_move ?_
  refine o_loadN (v := x.val) rfl rfl rfl ?_
  refine o_call (findES_spec p ys x hs (by omega)) rfl rfl ?_
  rintro _ _ ⟨k, there, rfl, rfl, hk⟩
  refine o_move ?_
  refine o_extract rfl rfl ?_
  refine o_extract rfl rfl ?_
  refine o_assign ?_
  refine o_assign ?_
  first | refine g_endt ?_ | refine g_end ?_
  repeat (first | refine g_endt ?_ | refine g_end ?_ | refine g_then ?_ | refine g_in_normal ?_ | refine g_then_ret ?_ | refine g_in_ret ?_ | refine g_then_exit ?_ | refine g_in_exit rfl ?_ | refine g_in_exit_ne (by decide) ?_ | refine g_seq ?_ | refine g_region ?_ | refine g_block ?_ | refine g_ret ?_ | refine g_return_n ?_ | refine g_exit ?_ | refine g_skip ?_)
  refine o_move ?_
  refine g_endt ?_
  cases there
  case true =>
    first | refine g_seq (g_cond_t rfl (rfl) ?_) | refine g_cond_t rfl (rfl) ?_
    repeat (first | refine g_endt ?_ | refine g_end ?_ | refine g_then ?_ | refine g_in_normal ?_ | refine g_then_ret ?_ | refine g_in_ret ?_ | refine g_then_exit ?_ | refine g_in_exit rfl ?_ | refine g_in_exit_ne (by decide) ?_ | refine g_seq ?_ | refine g_region ?_ | refine g_block ?_ | refine g_ret ?_ | refine g_return_n ?_ | refine g_exit ?_ | refine g_skip ?_)
    refine o_assign ?_
    first | refine g_endt ?_ | refine g_end ?_
    repeat (first | refine g_endt ?_ | refine g_end ?_ | refine g_then ?_ | refine g_in_normal ?_ | refine g_then_ret ?_ | refine g_in_ret ?_ | refine g_then_exit ?_ | refine g_in_exit rfl ?_ | refine g_in_exit_ne (by decide) ?_ | refine g_seq ?_ | refine g_region ?_ | refine g_block ?_ | refine g_ret ?_ | refine g_return_n ?_ | refine g_exit ?_ | refine g_skip ?_)
    exact ret1 (K := [SetAES p ys]) rfl (resT rfl) ⟨k, true, rfl, rfl, hk⟩
  first | refine g_seq (g_cond_f rfl (rfl) ?_) | refine g_cond_f rfl (rfl) ?_
  repeat (first | refine g_endt ?_ | refine g_end ?_ | refine g_then ?_ | refine g_in_normal ?_ | refine g_then_ret ?_ | refine g_in_ret ?_ | refine g_then_exit ?_ | refine g_in_exit rfl ?_ | refine g_in_exit_ne (by decide) ?_ | refine g_seq ?_ | refine g_region ?_ | refine g_block ?_ | refine g_ret ?_ | refine g_return_n ?_ | refine g_exit ?_ | refine g_skip ?_)
  refine o_move ?_
  refine o_call (ownES_spec p ys (by omega)) rfl rfl ?_
  rintro _ _ ⟨S, c, rfl⟩
  refine g_endt ?_
  repeat (first | refine g_endt ?_ | refine g_end ?_ | refine g_then ?_ | refine g_in_normal ?_ | refine g_then_ret ?_ | refine g_in_ret ?_ | refine g_then_exit ?_ | refine g_in_exit rfl ?_ | refine g_in_exit_ne (by decide) ?_ | refine g_seq ?_ | refine g_region ?_ | refine g_block ?_ | refine g_ret ?_ | refine g_return_n ?_ | refine g_exit ?_ | refine g_skip ?_)
  refine g_draw [6, 7, 10] [0,1,2,3,4,5,6,7,8,9,10] [cellsB p #[.slice S ys.length c, .bool false] 219, cellsB q x.val.cells 35] mixed rfl ?_
  refine ob_q rfl rfl ⟨_, fun X Q h => o_move (g_end (h _ _ ⟨rfl, rfl⟩)), ?_⟩
  refine ob_q rfl rfl ⟨_, fun X Q h => o_move (g_end (h _ _ ⟨rfl, rfl⟩)), ?_⟩
  refine ob_q rfl rfl ⟨_, fun X Q h => o_nil rfl (g_end (h _ _ ⟨rfl, rfl⟩)), ?_⟩
  refine ob_q rfl rfl ⟨_, fun X Q h => o_field rfl (g_end (h _ _ ⟨rfl, rfl⟩)), ?_⟩
  refine ob_q rfl rfl ⟨_, fun X Q h => o_load1 (v := .slice S ys.length c) rfl rfl (g_end (h _ _ ⟨rfl, rfl⟩)), ?_⟩
  refine ob_q rfl rfl ⟨_, fun X Q h => o_loadN (v := x.val) rfl rfl rfl (g_end (h _ _ ⟨rfl, rfl⟩)), ?_⟩
  refine ob_l rfl rfl fun Qz hz => o_slice_lit (e := 35) x.val.cells (fun w => by kernel_rfl) fun g => G.lit_slice (enc := ElemD.enc) (sz := 12) [x] (by simp [ElemD.enc]) (by simp [maxLen]) <| G.freeze_slice <| g_end (hz _ _ ⟨_, ob_fin, ?_⟩)
  clear hz Qz
  refine ob_l rfl rfl fun Qz hz => o_append (xs := ys) (ys := [x]) rfl rfl rfl rfl rfl (fun _ => .inr trivial) (by simp [maxLen]; omega) (by simp; omega) fun U d => g_end (hz _ _ ⟨_, ob_fin, ?_⟩)
  clear hz Qz
  refine ob_q rfl rfl ⟨_, fun X Q h => o_nil rfl (g_end (h _ _ ⟨rfl, rfl⟩)), ?_⟩
  refine ob_q rfl rfl ⟨_, fun X Q h => o_field rfl (g_end (h _ _ ⟨rfl, rfl⟩)), ?_⟩
  refine ob_s ([]) rfl rfl rfl fun Qz hz => o_store (v := .slice U (ys.length + 1) d) rfl rfl rfl rfl rfl <| g_end (hz _ _ ⟨_, ob_fin, ?_⟩)
  clear hz Qz
  refine ob_nil ?_
  refine G.norm p #[.slice U (ys.length + 1) d, .bool false] rfl ?_
  repeat (first | refine g_endt ?_ | refine g_end ?_ | refine g_then ?_ | refine g_in_normal ?_ | refine g_then_ret ?_ | refine g_in_ret ?_ | refine g_then_exit ?_ | refine g_in_exit rfl ?_ | refine g_in_exit_ne (by decide) ?_ | refine g_seq ?_ | refine g_region ?_ | refine g_block ?_ | refine g_ret ?_ | refine g_return_n ?_ | refine g_exit ?_ | refine g_skip ?_)
  refine o_move ?_
  refine o_nil rfl ?_
  refine o_field rfl ?_
  refine o_load1 (v := .slice U (ys.length + 1) d) rfl rfl ?_
  refine o_len rfl rfl ?_
  refine o_sub (c := ((ys.length : Nat) : Int)) rfl rfl (by omega) (by omega) (by omega) ?_
  refine o_assign ?_
  refine g_endt ?_
  repeat (first | refine g_endt ?_ | refine g_end ?_ | refine g_then ?_ | refine g_in_normal ?_ | refine g_then_ret ?_ | refine g_in_ret ?_ | refine g_then_exit ?_ | refine g_in_exit rfl ?_ | refine g_in_exit_ne (by decide) ?_ | refine g_seq ?_ | refine g_region ?_ | refine g_block ?_ | refine g_ret ?_ | refine g_return_n ?_ | refine g_exit ?_ | refine g_skip ?_)
  have hk1 : k ≤ ys.length := hk.1
  refine g_loop (σ := {s : Nat × ElemD // k ≤ s.1 ∧ s.1 ≤ ys.length})
    (S := fun s => [(0, .pointer (some ⟨p, 0, none⟩)), (3, .pointer (some ⟨q, 0, none⟩)), (5, .int .i64 (k : Int)), (7, .int .i64 (s.1.1 : Int))])
    (H := fun s => [cellsB p #[.slice U (ys.length + 1) d, .bool false] 219, cellsB q x.val.cells 35, osl 35 ElemD.enc 12 U d (ys.take s.1.1 ++ s.1.2 :: ys.drop s.1.1)]) (μ := fun s => s.1.1)
    (s0 := ⟨(ys.length, x), hk1, Nat.le_refl _⟩) (Sat.mem ⟨rfl, rfl, rfl, rfl, trivial⟩) (t := by simp only [List.take_length, List.drop_length]; infer_instance) ?_
  rintro ⟨⟨i, w⟩, h1, h2⟩ ρ'
  dsimp only at h1 h2 ⊢
  have hlen : (ys.take i ++ w :: ys.drop i).length = ys.length + 1 := by simp; omega
  repeat (first | refine g_endt ?_ | refine g_end ?_ | refine g_then ?_ | refine g_in_normal ?_ | refine g_then_ret ?_ | refine g_in_ret ?_ | refine g_then_exit ?_ | refine g_in_exit rfl ?_ | refine g_in_exit_ne (by decide) ?_ | refine g_seq ?_ | refine g_region ?_ | refine g_block ?_ | refine g_ret ?_ | refine g_return_n ?_ | refine g_exit ?_ | refine g_skip ?_)
  refine o_move ?_
  refine o_move ?_
  refine o_gtr rfl rfl ?_
  first | refine g_endt ?_ | refine g_end ?_
  by_cases h : k < i
  · first | refine g_seq (g_cond_t rfl (by simpa using h) ?_) | refine g_cond_t rfl (by simpa using h) ?_
    repeat (first | refine g_endt ?_ | refine g_end ?_ | refine g_then ?_ | refine g_in_normal ?_ | refine g_then_ret ?_ | refine g_in_ret ?_ | refine g_then_exit ?_ | refine g_in_exit rfl ?_ | refine g_in_exit_ne (by decide) ?_ | refine g_seq ?_ | refine g_region ?_ | refine g_block ?_ | refine g_ret ?_ | refine g_return_n ?_ | refine g_exit ?_ | refine g_skip ?_)
    obtain ⟨i, rfl⟩ : ∃ j, i = j + 1 := ⟨i - 1, by omega⟩
    have hi : i < ys.length := by omega
    obtain ⟨y, hy⟩ : ∃ y, ys[i]? = some y := ⟨_, List.getElem?_eq_getElem hi⟩
    have hz : (ys.take (i + 1) ++ w :: ys.drop (i + 1))[i]? = some y := by
      rw [List.getElem?_append_left (by simp; omega), List.getElem?_take, if_pos (by omega), hy]
    refine g_draw [14] [0,1,2,3,4,5,6,7,8,9,10,11,12,13,14] [cellsB p #[.slice U (ys.length + 1) d, .bool false] 219, osl 35 ElemD.enc 12 U d (ys.take (i + 1) ++ w :: ys.drop (i + 1))] mixed rfl ?_
    refine ob_q rfl rfl ⟨_, fun X Q h => o_move (g_end (h _ _ ⟨rfl, rfl⟩)), ?_⟩
    refine ob_q rfl rfl ⟨_, fun X Q h => o_nil rfl (g_end (h _ _ ⟨rfl, rfl⟩)), ?_⟩
    refine ob_q rfl rfl ⟨_, fun X Q h => o_field rfl (g_end (h _ _ ⟨rfl, rfl⟩)), ?_⟩
    refine ob_q rfl rfl ⟨_, fun X Q h => o_load1 (v := .slice U (ys.length + 1) d) rfl rfl (g_end (h _ _ ⟨rfl, rfl⟩)), ?_⟩
    refine ob_q rfl rfl ⟨_, fun X Q h => o_move (g_end (h _ _ ⟨rfl, rfl⟩)), ?_⟩
    refine ob_q rfl rfl ⟨_, fun X Q h => o_move (g_end (h _ _ ⟨rfl, rfl⟩)), ?_⟩
    refine ob_q rfl rfl ⟨_, fun X Q h => o_nil rfl (g_end (h _ _ ⟨rfl, rfl⟩)), ?_⟩
    refine ob_q rfl rfl ⟨_, fun X Q h => o_field rfl (g_end (h _ _ ⟨rfl, rfl⟩)), ?_⟩
    refine ob_q rfl rfl ⟨_, fun X Q h => o_load1 (v := .slice U (ys.length + 1) d) rfl rfl (g_end (h _ _ ⟨rfl, rfl⟩)), ?_⟩
    refine ob_q rfl rfl ⟨_, fun X Q h => o_move (g_end (h _ _ ⟨rfl, rfl⟩)), ?_⟩
    refine ob_q rfl rfl ⟨_, fun X Q h => o_sub (c := ((i : Nat) : Int)) rfl rfl (by omega) (by omega) (by omega) (g_end (h _ _ ⟨rfl, rfl⟩)), ?_⟩
    refine ob_q rfl rfl ⟨_, fun X Q h => o_indexR (i := i) rfl rfl rfl (by omega) hlen rfl (g_end (h _ _ ⟨rfl, rfl⟩)), ?_⟩
    refine ob_q rfl rfl ⟨_, fun X Q h => o_loadE (enc := ElemD.enc) rfl rfl hz (g_end (h _ _ ⟨rfl, rfl⟩)), ?_⟩
    refine ob_q rfl rfl ⟨_, fun X Q h => o_indexR (i := i + 1) rfl rfl rfl (by omega) hlen rfl (g_end (h _ _ ⟨rfl, rfl⟩)), ?_⟩
    refine ob_s ([]) rfl rfl rfl fun Qz hz => o_storeE (e := 35) (c := d) (v := y.val) (z := y) (i := i + 1) (enc := ElemD.enc) (xs := ys.take (i + 1) ++ w :: ys.drop (i + 1)) rfl rfl rfl rfl (by omega) <| g_end (hz _ _ ⟨_, ob_fin, ?_⟩)
    clear hz Qz
    refine ob_nil ?_
    rw [gapES ys i w y hi hy]
    repeat (first | refine g_endt ?_ | refine g_end ?_ | refine g_then ?_ | refine g_in_normal ?_ | refine g_then_ret ?_ | refine g_in_ret ?_ | refine g_then_exit ?_ | refine g_in_exit rfl ?_ | refine g_in_exit_ne (by decide) ?_ | refine g_seq ?_ | refine g_region ?_ | refine g_block ?_ | refine g_ret ?_ | refine g_return_n ?_ | refine g_exit ?_ | refine g_skip ?_)
    refine o_move ?_
    refine o_sub (c := ((i : Nat) : Int)) rfl rfl (by omega) (by omega) (by omega) ?_
    refine o_assign ?_
    refine g_endt ?_
    repeat (first | refine g_endt ?_ | refine g_end ?_ | refine g_then ?_ | refine g_in_normal ?_ | refine g_then_ret ?_ | refine g_in_ret ?_ | refine g_then_exit ?_ | refine g_in_exit rfl ?_ | refine g_in_exit_ne (by decide) ?_ | refine g_seq ?_ | refine g_region ?_ | refine g_block ?_ | refine g_ret ?_ | refine g_return_n ?_ | refine g_exit ?_ | refine g_skip ?_)
    exact g_meets ⟨(i, y), by show k ≤ i; omega, by show i ≤ ys.length; omega⟩ (by show i < i + 1; omega) (Sat.mem ⟨rfl, rfl, rfl, rfl, trivial⟩)
  · first | refine g_seq (g_cond_f rfl (by simpa using h) ?_) | refine g_cond_f rfl (by simpa using h) ?_
    have e : i = k := by omega
    subst e
    repeat (first | refine g_endt ?_ | refine g_end ?_ | refine g_then ?_ | refine g_in_normal ?_ | refine g_then_ret ?_ | refine g_in_ret ?_ | refine g_then_exit ?_ | refine g_in_exit rfl ?_ | refine g_in_exit_ne (by decide) ?_ | refine g_seq ?_ | refine g_region ?_ | refine g_block ?_ | refine g_ret ?_ | refine g_return_n ?_ | refine g_exit ?_ | refine g_skip ?_)
    refine g_draw [7] [0,1,2,3,4,5,6,7] [cellsB p #[.slice U (ys.length + 1) d, .bool false] 219, osl 35 ElemD.enc 12 U d (ys.take i ++ w :: ys.drop i), cellsB q x.val.cells 35] mixed rfl ?_
    refine ob_q rfl rfl ⟨_, fun X Q h => o_move (g_end (h _ _ ⟨rfl, rfl⟩)), ?_⟩
    refine ob_q rfl rfl ⟨_, fun X Q h => o_nil rfl (g_end (h _ _ ⟨rfl, rfl⟩)), ?_⟩
    refine ob_q rfl rfl ⟨_, fun X Q h => o_field rfl (g_end (h _ _ ⟨rfl, rfl⟩)), ?_⟩
    refine ob_q rfl rfl ⟨_, fun X Q h => o_load1 (v := .slice U (ys.length + 1) d) rfl rfl (g_end (h _ _ ⟨rfl, rfl⟩)), ?_⟩
    refine ob_q rfl rfl ⟨_, fun X Q h => o_move (g_end (h _ _ ⟨rfl, rfl⟩)), ?_⟩
    refine ob_q rfl rfl ⟨_, fun X Q h => o_loadN (v := x.val) rfl rfl rfl (g_end (h _ _ ⟨rfl, rfl⟩)), ?_⟩
    refine ob_q rfl rfl ⟨_, fun X Q h => o_indexR (i := i) rfl rfl rfl (by omega) hlen rfl (g_end (h _ _ ⟨rfl, rfl⟩)), ?_⟩
    refine ob_s ([]) rfl rfl rfl fun Qz hz => o_storeE (e := 35) (c := d) (v := x.val) (z := x) (i := i) (enc := ElemD.enc) (xs := ys.take i ++ w :: ys.drop i) rfl rfl rfl rfl (by omega) <| g_end (hz _ _ ⟨_, ob_fin, ?_⟩)
    clear hz Qz
    refine ob_nil ?_
    have hset : (ys.take i ++ w :: ys.drop i).set i x = ys.take i ++ x :: ys.drop i := by
      have h3 : (ys.take i).length = i := by simp; omega
      rw [List.set_append_right _ _ (by omega), h3, Nat.sub_self, List.set_cons_zero]
    rw [hset]
    repeat (first | refine g_endt ?_ | refine g_end ?_ | refine g_then ?_ | refine g_in_normal ?_ | refine g_then_ret ?_ | refine g_in_ret ?_ | refine g_then_exit ?_ | refine g_in_exit rfl ?_ | refine g_in_exit_ne (by decide) ?_ | refine g_seq ?_ | refine g_region ?_ | refine g_block ?_ | refine g_ret ?_ | refine g_return_n ?_ | refine g_exit ?_ | refine g_skip ?_)
    refine o_assign ?_
    first | refine g_endt ?_ | refine g_end ?_
    refine shutFES p (ys.take i ++ x :: ys.drop i) U d (len := ys.length + 1) (by simp; omega) ?_
    repeat (first | refine g_endt ?_ | refine g_end ?_ | refine g_then ?_ | refine g_in_normal ?_ | refine g_then_ret ?_ | refine g_in_ret ?_ | refine g_then_exit ?_ | refine g_in_exit rfl ?_ | refine g_in_exit_ne (by decide) ?_ | refine g_seq ?_ | refine g_region ?_ | refine g_block ?_ | refine g_ret ?_ | refine g_return_n ?_ | refine g_exit ?_ | refine g_skip ?_)
    exact ret1 (K := [SetAES p (ys.take i ++ x :: ys.drop i)]) rfl (resT rfl) ⟨i, false, rfl, rfl, hk⟩
end Go.Proofs.Ytfakoemkapankaa
/- An ordered set's functions, for one type of members: where one stands. -/
namespace Go.Proofs.Ytfakoemkapankaa
open Go Go.Sl
attribute [local irreducible] Code.wpIn roundPost bodyPostM runL Ret Meets Begin

theorem PlaceES_spec (p : Nat) (ys : List ElemD) (x : ElemD) (hs : Srt ElemD.cmp ys) (hl : ys.length ≤ 1000000000) : Ctr Try.prog 114 [.pointer (some ⟨p, 0, none⟩), x.val] [SetAES p ys]
    (fun v M => ∃ (k : Nat) (there : Bool), v = .tuple #[.int .i64 (k : Int), .bool there] ∧ M = [SetAES p ys] ∧ FindR ElemD.cmp ys x k there) := by
  refine spec_of Try.func114 rfl Try.ntmps114 rfl fun w0 F => ?_
  -- (*ponder/order.Set[ponder/api.Elem]).Place
  repeat (first | refine g_endt ?_ | refine g_end ?_ | refine g_then ?_ | refine g_in_normal ?_ | refine g_then_ret ?_ | refine g_in_ret ?_ | refine g_then_exit ?_ | refine g_in_exit rfl ?_ | refine g_in_exit_ne (by decide) ?_ | refine g_seq ?_ | refine g_region ?_ | refine g_block ?_ | refine g_ret ?_ | refine g_return_n ?_ | refine g_exit ?_ | refine g_skip ?_)
  refine o_boxc x.val.cells rfl rfl fun q => ?_
  refine o_assign ?_
  refine o_assign ?_
  first | refine g_endt ?_ | refine g_end ?_
  repeat (first | refine g_endt ?_ | refine g_end ?_ | refine g_then ?_ | refine g_in_normal ?_ | refine g_then_ret ?_ | refine g_in_ret ?_ | refine g_then_exit ?_ | refine g_in_exit rfl ?_ | refine g_in_exit_ne (by decide) ?_ | refine g_seq ?_ | refine g_region ?_ | refine g_block ?_ | refine g_ret ?_ | refine g_return_n ?_ | refine g_exit ?_ | refine g_skip ?_)
  refine o_move ?_
  refine o_peql rfl ?_
  first | refine g_endt ?_ | refine g_end ?_
  first | refine g_seq (g_cond_f rfl (by first | rfl | (simp; done) | (simp; omega) | (simp; assumption)) ?_) | refine g_cond_f rfl (by first | rfl | (simp; done) | (simp; omega) | (simp; assumption)) ?_
  repeat (first | refine g_endt ?_ | refine g_end ?_ | refine g_then ?_ | refine g_in_normal ?_ | refine g_then_ret ?_ | refine g_in_ret ?_ | refine g_then_exit ?_ | refine g_in_exit rfl ?_ | refine g_in_exit_ne (by decide) ?_ | refine g_seq ?_ | refine g_region ?_ | refine g_block ?_ | refine g_ret ?_ | refine g_return_n ?_ | refine g_exit ?_ | refine g_skip ?_)
  refine o_move ?_
  refine o_loadN (v := x.val) rfl rfl rfl ?_
  refine o_call (findES_spec p ys x hs hl) rfl rfl ?_
  rintro _ _ ⟨k, there, rfl, rfl, hk⟩
  refine o_extract rfl rfl ?_
  refine o_extract rfl rfl ?_
  refine o_assign ?_
  refine o_assign ?_
  first | refine g_endt ?_ | refine g_end ?_
  repeat (first | refine g_endt ?_ | refine g_end ?_ | refine g_then ?_ | refine g_in_normal ?_ | refine g_then_ret ?_ | refine g_in_ret ?_ | refine g_then_exit ?_ | refine g_in_exit rfl ?_ | refine g_in_exit_ne (by decide) ?_ | refine g_seq ?_ | refine g_region ?_ | refine g_block ?_ | refine g_ret ?_ | refine g_return_n ?_ | refine g_exit ?_ | refine g_skip ?_)
  exact ret2 (K := [SetAES p ys]) rfl (resT rfl) (resT rfl) ⟨k, there, rfl, rfl, hk⟩
end Go.Proofs.Ytfakoemkapankaa
/- An ordered set's functions, told as functions of lists. -/
namespace Go.Proofs.Ytfakoemkapankaa
open Go Go.Sl

theorem PutCES_spec (p : Nat) (ys : List ElemD) (x : ElemD) (hs : Srt ElemD.cmp ys) (hl : ys.length < 1000000000) : Ctr Try.prog 108 [.pointer (some ⟨p, 0, none⟩), x.val] [SetAES p ys]
    (fun v M => v = .bool (!hasC ElemD.cmp ys x) ∧ M = [SetAES p (insC ElemD.cmp ys x)]) := (PutES_spec p ys x hs hl).mono fun v M ⟨k, there, h1, h2, h3⟩ => by
  rw [h1, h2, hasC_of h3, insC_of ElemD.lin hs h3]
  exact ⟨rfl, rfl⟩
theorem PlaceCES_spec (p : Nat) (ys : List ElemD) (x : ElemD) (hs : Srt ElemD.cmp ys) (hl : ys.length ≤ 1000000000) : Ctr Try.prog 114 [.pointer (some ⟨p, 0, none⟩), x.val] [SetAES p ys]
    (fun v M => ∃ k : Nat, v = .tuple #[.int .i64 (k : Int), .bool (hasC ElemD.cmp ys x)] ∧ M = [SetAES p ys]) := (PlaceES_spec p ys x hs hl).mono fun v M ⟨k, there, h1, h2, h3⟩ => by
  rw [h1, h2, hasC_of h3]
  exact ⟨k, rfl, rfl⟩
end Go.Proofs.Ytfakoemkapankaa
