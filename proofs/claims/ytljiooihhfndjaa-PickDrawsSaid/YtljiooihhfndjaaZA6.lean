/- Parts of a proof, in order. -/
import Derived.Test.YtljiooihhfndjaaZA5
import Derived.ProofKit
import Derived.Deep.Slices
import Derived.Deep.Strs
import Derived.Lib.SmallJoins

set_option linter.unusedSimpArgs false
set_option linter.unusedVariables false
/- A store into a part of an owned row's element. Plain library, no program in sight. -/
namespace Go.Sl
open Go Go.Proofs Go.RowKit

theorem row_at {α : Type} {enc : α → List Value} {sz : Nat} [e : EncLen enc sz] {xs : List α} {cur : List Value} {i : Nat} {z : α} (h : cur.take (xs.length * sz) = xs.flatMap enc) (hz : xs[i]? = some z) : (cur.drop (i * sz)).take sz = enc z := by
  have hi : i < xs.length := (List.getElem?_eq_some_iff.1 hz).1
  have hle : (i + 1) * sz ≤ xs.length * sz := Nat.mul_le_mul_right _ hi
  have h6 : (i + 1) * sz = i * sz + sz := by rw [Nat.add_mul]; omega
  have h1 : (cur.drop (i * sz)).take sz = ((cur.take (xs.length * sz)).drop (i * sz)).take sz := by
    rw [List.drop_take, List.take_take, Nat.min_eq_left (by omega)]
  rw [h1, h, flat_drop]
  have h2 : xs.drop i = z :: xs.drop (i + 1) := by
    rw [List.drop_eq_getElem_cons hi]
    congr 1
    have := List.getElem?_eq_getElem hi
    rw [this] at hz
    exact Option.some.inj hz
  rw [h2, List.flatMap_cons, List.take_left' (e.len z)]
section
variable {w0 : World} {A : SProp} {L : List SProp} {ro : Option Nat} {P : Program} {Q : Exit → Act → World → Prop} {all : Array Oper} {os : List Oper} {n : Nat} {ρ : Nat → Value} {ds : List Nat}
variable {d : Option Tmp} {ty : TypeId} {pos : String} {af : Array Edge} {x y : Operand}
variable {α : Type} {enc : α → List Value} {sz : Nat} {xs : List α} {S : Option Addr}
/-- A store of a part of an element into an owned row. -/
theorem o_storeF {t e : TypeId} {k c i off : Nat} {v : Value} {z0 z : α} {M : List SProp} (hx : ev n ρ x = padr S (i * sz + off)) (hy : ev n ρ y = v) [tk : Take1 L (osl e enc sz S c xs) M] [el : EncLen enc sz] [ts : TySz P t k] (hz0 : xs[i]? = some z0) (hk : v.cells.toList.length = k)
    (hv : enc z = (enc z0).take off ++ v.cells.toList ++ (enc z0).drop (off + k)) (ho : off + k ≤ sz)
    (h : G w0 A (osl e enc sz S c (xs.set i z) :: M) (fun w => runL ro P all Q os (act n (updo ρ d undef) ds) w)) :
    G w0 A L (fun w => runL ro P all Q ({ dst := d, op := .store t x y, type := ty, pos := pos, after := af, guard := none } :: os) (act n ρ ds) w) := by
  have hi : i < xs.length := (List.getElem?_eq_some_iff.1 hz0).1
  refine o_run rfl fun w hw hh => ?_
  refine ⟨fun _ _ => trivial, ?_⟩
  rw [Oper.semAt_eq _ _ _ (by intro c e; cases e), act_eval]
  have hh1 : holds (star (osl e enc sz S c xs) (star A (sl M))) w := (hh.ent ((Ent.refl A).star (sl_perm tk.perm))).ent (Ent.swap _ _ _)
  have hopen : ∃ g cur, S = some ⟨g, 0, none⟩ ∧ (xs.length ≤ c ∧ c ≤ maxLen ∧ cur.size = c * sz ∧ cur.toList.take (xs.length * sz) = xs.flatMap enc) ∧ holds (star (blk g (.cells cur e (0, 0))) (star A (sl M))) w := by
    obtain ⟨B, k, dd, l, m, k1, k2, d12, l1, l2, hx, hy⟩ := hh1
    rcases hx with ⟨_, rfl, _⟩ | ⟨g, cur, hA, hg, hr⟩
    · simp at hi
    · exact ⟨g, cur, hA, hr, B, k, dd, l, m, k1, k2, d12, l1, l2, hg, hy⟩
  obtain ⟨g, cur, rfl, ⟨h1, h2, h3, h4⟩, hh2⟩ := hopen
  have hbw : w.heap[g]? = some (.cells cur e (0, 0)) := (Sees.left (sees_blk g _)) w hh2
  have hvs : v.cells.size = k := by rw [← Array.length_toList]; exact hk
  have hsz : i * sz + sz ≤ cur.size := by
    rw [h3]
    calc i * sz + sz = (i + 1) * sz := by rw [Nat.add_mul]; omega
      _ ≤ c * sz := Nat.mul_le_mul_right _ (by omega)
  have hone : ∀ u ∈ v.cells.toList, u.oneCell' = true := fun u hu => el.one z u (by rw [hv]; simp [hu])
  have hst := run_storeCells_at (P := P) g (i * sz + off) e v.cells.toList 0 cur w hbw (by rw [hk]; omega) hone
  have hpa : padr (some ⟨g, 0, none⟩) (i * sz + off) = .pointer (some ⟨g, i * sz + off, none⟩) := by rw [padr_some]; simp
  have hrun : (execOp (ev n ρ) { dst := d, op := .store t x y, type := ty, pos := pos, after := af, guard := none }).run P w = .ok .skip (w.setRow g (sto cur (i * sz + off) v.cells)) := by
    simp only [execOp, hx, hy, hpa]
    simp [Instr.storeAt, Instr.sureAddr, storeVar, ts.size, hvs, hst, sto]
  rw [hrun]
  show runL ro P all Q os ((act n ρ ds).put d undef) _
  rw [act_put]
  refine h _ (hw.trans (std_setRow _ _ _)) ?_
  have hh3 := hh2.update (o' := .cells (sto cur (i * sz + off) v.cells) e (0, 0)) (setRow_heap w g cur _ e _ hbw) (fun j hj => hp_setRow_ne w _ hj)
  have hcl : cur.toList.length = c * sz := by rw [Array.length_toList, h3]
  have hat := row_at h4 hz0
  have h6 : (i + 1) * sz = i * sz + sz := by rw [Nat.add_mul]; omega
  have hsize : (sto cur (i * sz + off) v.cells).toList = cur.toList.take (i * sz) ++ enc z ++ cur.toList.drop ((i + 1) * sz) := by
    simp only [sto, hk]
    rw [hv, ← hat, List.take_take, Nat.min_eq_left (by omega), List.drop_take, h6]
    have e1 : cur.toList.take (i * sz + off) = cur.toList.take (i * sz) ++ (cur.toList.drop (i * sz)).take off := by rw [List.take_add]
    have e2 : cur.toList.drop (i * sz + off + k) = ((cur.toList.drop (i * sz)).drop (off + k)).take (sz - (off + k)) ++ cur.toList.drop (i * sz + sz) := by
      have : cur.toList.drop (i * sz + sz) = ((cur.toList.drop (i * sz)).drop (off + k)).drop (sz - (off + k)) := by
        rw [List.drop_drop, List.drop_drop]; congr 1; omega
      rw [this, List.take_append_drop, List.drop_drop]
      congr 1
      omega
    rw [e1, e2]
    simp only [List.append_assoc]
  refine (hh3.ent (Ent.star ?_ (Ent.refl _))).ent (Ent.swap _ _ _)
  intro B k hk
  refine .inr ⟨g, _, rfl, hk, by simpa using h1, h2, ?_, ?_⟩
  · rw [← Array.length_toList, hsize]
    have := el.len z
    simp only [List.length_append, List.length_take, List.length_drop, hcl, this]
    have h5 : (i + 1) * sz ≤ c * sz := Nat.mul_le_mul_right _ (by omega)
    omega
  · rw [hsize, List.length_set, flat_set xs i z hi, ← h4]
    have h5 : (i + 1) * sz ≤ xs.length * sz := Nat.mul_le_mul_right _ hi
    have h7 : xs.length * sz ≤ cur.toList.length := by rw [hcl]; exact Nat.mul_le_mul_right _ h1
    have hl1 : (cur.toList.take (i * sz) ++ enc z).length = (i + 1) * sz := by
      simp only [List.length_append, List.length_take, el.len]; omega
    rw [List.take_take, Nat.min_eq_left (by omega), List.drop_take]
    conv => lhs; rw [show xs.length * sz = (cur.toList.take (i * sz) ++ enc z).length + (xs.length * sz - (i + 1) * sz) by rw [hl1]; omega]
    rw [List.take_length_add_append]
end
end Go.Sl
/- A region that draws its order, with pure operations. Plain library, no program in sight. (Sl5's rule, taken further.) -/
namespace Go.Sl.Pu
open Go Go.Proofs Go.Sl

section
variable {w0 : World} {A : SProp} {ro : Option Nat} {P : Program} {n : Nat} {ds : List Nat}
/-- What is owed: each operation's step, the loud ones' with what they change. -/
def okSync (b : List Nat) (m i : Nat) (π pu : List Nat) : Bool := (List.range m).all fun j => (π.contains j || (j == i || isAnc b i j)) || pu.contains j
def ObR (w0 : World) (A : SProp) (ro : Option Nat) (P : Program) (l : List Oper) (n : Nat) (ds : List Nat) (lou pu : List Nat) (K : (Nat → Value) → List SProp → Prop) : List Nat → List SProp → (Nat → Value) → List SProp → Prop
  | [], Lq, ρ, Lp => K ρ (Lq ++ Lp)
  | i :: π, Lq, ρ, Lp => match l[i]? with
    | none => False
    | some o => if lou.contains i then
        OStep w0 A ro P l.toArray n ds ρ (Lq ++ Lp) o (fun v M => ∃ Lq' Lp', Ent (sl M) (sl (Lq' ++ Lp')) ∧ (Lq' = Lq ∨ okSync (masks l []) l.length i π pu = true) ∧ ObR w0 A ro P l n ds lou pu K π Lq' (updo ρ o.dst v) Lp')
      else ∃ v, ((∀ X, OStep w0 A ro P l.toArray n ds ρ (Lq ++ X) o (fun u M => u = v ∧ M = Lq ++ X)) ∧ (pu.contains i = true → ∀ X, OStep w0 A ro P l.toArray n ds ρ X o (fun u M => u = v ∧ M = X))) ∧ ObR w0 A ro P l n ds lou pu K π Lq (updo ρ o.dst v) Lp
abbrev Ob (w0 : World) (A : SProp) (ro : Option Nat) (P : Program) (l : List Oper) (n : Nat) (ds : List Nat) (lou pu : List Nat) (Lq : List SProp) (K : (Nat → Value) → List SProp → Prop) (π : List Nat) (ρ : Nat → Value) (Lp : List SProp) : Prop :=
  ObR w0 A ro P l n ds lou pu K π Lq ρ Lp

structure Inv (w0 : World) (A : SProp) (ro : Option Nat) (P : Program) (l : List Oper) (n : Nat) (ds : List Nat) (b pu : List Nat) (Lq : List SProp) (ρ0 : Nat → Value) (listed : Array Bool) (π : List Nat) (pend : List Pd) (ρf : Nat → Value) : Prop where
  sz : listed.size = l.length
  inπ : ∀ j ∈ π, j < l.length ∧ listed.getD j false = false ∧ ∀ p ∈ pend, p.1 ≠ j
  inP : ∀ p ∈ pend, p.1 < l.length ∧ listed.getD p.1 false = false
  all : ∀ j, j < l.length → listed.getD j false = true ∨ (∃ p ∈ pend, p.1 = j) ∨ j ∈ π
  nπ : π.Nodup
  nP : (pend.map (·.1)).Nodup
  closed : ∀ i j, listed.getD i false = true → isAnc b i j = true → j < l.length → listed.getD j false = true
  base : ∀ t, (∀ j, j < l.length → j ∉ π → dstAt l j ≠ some t) → ρf t = ρ0 t
  pa : ∀ p ∈ pend, ∀ j ∈ π, isAnc b p.1 j = false
  pq : ∀ p ∈ pend, ∀ o, l[p.1]? = some o → ((∀ X, OStep w0 A ro P l.toArray n ds p.2.1 (Lq ++ X) o (fun u M => u = p.2.2 ∧ M = Lq ++ X)) ∧ (pu.contains p.1 = true → ∀ X, OStep w0 A ro P l.toArray n ds p.2.1 X o (fun u M => u = p.2.2 ∧ M = X))) ∧ (∀ d, o.dst = some d → ρf d = p.2.2) ∧
    ∀ t ∈ o.looksAt l.toArray, ((∃ j, j < l.length ∧ isAnc b p.1 j = true ∧ dstAt l j = some t) → p.2.1 t = ρf t) ∧ ((∀ j, j < l.length → isAnc b p.1 j = true → dstAt l j ≠ some t) → p.2.1 t = ρ0 t)

section sound
variable {l : List Oper} {b lou pu : List Nat} {Lq : List SProp} {ρ0 : Nat → Value} {K : (Nat → Value) → List SProp → Prop}
theorem dstAt_of {i : Nat} {o : Oper} (ho : l[i]? = some o) : dstAt l i = o.dst := by simp [dstAt, ho]
theorem updo_ne {ρ : Nat → Value} {d : Option Tmp} {t : Nat} {v : Value} (h : d ≠ some t) : updo ρ d v t = ρ t := by
  cases d with
  | none => rfl
  | some d => exact upd_ne _ _ (fun e => h (by rw [e]))

/-- A quiet operation is walked. -/
theorem Inv.pop (rf : RegFacts l n b) {listed : Array Bool} {k : Nat} {π : List Nat} {pend : List Pd} {ρf : Nat → Value} {Lp : List SProp} (h : Inv w0 A ro P l n ds b pu Lq ρ0 listed (k :: π) pend ρf) (ho : okOrder lou b (k :: π) = true)
    (hq : lou.contains k = false) (hob : Ob w0 A ro P l n ds lou pu Lq K (k :: π) ρf Lp) :
    ∃ v, ∃ o, l[k]? = some o ∧ Inv w0 A ro P l n ds b pu Lq ρ0 listed π ((k, ρf, v) :: pend) (updo ρf o.dst v) ∧ Ob w0 A ro P l n ds lou pu Lq K π (updo ρf o.dst v) Lp ∧ cur l ρ0 ((k, ρf, v) :: pend) (updo ρf o.dst v) = cur l ρ0 pend ρf := by
  simp only [Ob, ObR] at hob
  cases hk : l[k]? with
  | none => rw [hk] at hob; exact hob.elim
  | some o =>
    rw [hk] at hob
    simp only [hq] at hob
    obtain ⟨v, hst, hrest⟩ := hob
    simp only [okOrder, Bool.and_eq_true, List.all_eq_true] at ho
    have hkl : k < l.length := (List.getElem?_eq_some_iff.1 hk).1
    have hkd := dstAt_of hk
    obtain ⟨hkn, hπn⟩ := List.nodup_cons.1 h.nπ
    have hbase : ∀ t, dstAt l k = some t → ρf t = ρ0 t := fun t ht => h.base t fun j hj hjn e => hjn ((rf.dne j k t hj hkl e ht).symm ▸ List.mem_cons_self)
    refine ⟨v, o, rfl, ?_, hrest, ?_⟩
    · refine ⟨h.sz, ?_, ?_, ?_, hπn, ?_, h.closed, ?_, ?_, ?_⟩
      · intro j hj
        obtain ⟨h1, h2, h3⟩ := h.inπ j (List.mem_cons_of_mem _ hj)
        refine ⟨h1, h2, fun p hp => ?_⟩
        rcases List.mem_cons.1 hp with rfl | hp
        · rintro rfl; exact hkn hj
        · exact h3 p hp
      · intro p hp
        rcases List.mem_cons.1 hp with rfl | hp
        · exact ⟨hkl, (h.inπ k List.mem_cons_self).2.1⟩
        · exact h.inP p hp
      · intro j hj
        rcases h.all j hj with h1 | ⟨p, hp, rfl⟩ | h1
        · exact .inl h1
        · exact .inr (.inl ⟨p, List.mem_cons_of_mem _ hp, rfl⟩)
        · rcases List.mem_cons.1 h1 with rfl | h1
          · exact .inr (.inl ⟨_, List.mem_cons_self, rfl⟩)
          · exact .inr (.inr h1)
      · rw [List.map_cons, List.nodup_cons]
        refine ⟨fun hm => ?_, h.nP⟩
        obtain ⟨p, hp, e⟩ := List.mem_map.1 hm
        exact (h.inπ k List.mem_cons_self).2.2 p hp e
      · intro t ht
        rw [updo_ne (by rw [← hkd]; exact ht k hkl hkn)]
        exact h.base t fun j hj hjn => ht j hj fun hjm => hjn (List.mem_cons_of_mem _ hjm)
      · intro p hp j hj
        rcases List.mem_cons.1 hp with rfl | hp
        · have := ho.1.2 j hj
          simpa using this
        · exact h.pa p hp j (List.mem_cons_of_mem _ hj)
      · intro p hp o' ho'
        rcases List.mem_cons.1 hp with rfl | hp
        · rw [hk] at ho'
          obtain rfl := Option.some.inj ho'
          refine ⟨hst, fun d hd => by rw [hd]; simp [updo, upd_same], fun t ht => ⟨?_, ?_⟩⟩
          · rintro ⟨j, hj, ha, hd⟩
            refine (updo_ne fun e => ?_).symm
            have : j = k := rf.dne j k t hj hkl hd (by rw [hkd]; exact e)
            subst this
            rw [rf.irr j hj] at ha; cases ha
          · intro hno
            refine h.base t fun j hj hjn e => ?_
            rcases rf.look k o hk t ht j hj e with h1 | h1 | h1
            · exact hno j hj h1 e
            · exact hjn (by rw [← h1]; exact List.mem_cons_self)
            · rcases h.all j hj with h2 | ⟨p, hp, rfl⟩ | h2
              · have := h.closed j k h2 h1 hkl
                rw [(h.inπ k List.mem_cons_self).2.1] at this; cases this
              · rw [h.pa p hp k List.mem_cons_self] at h1; cases h1
              · exact hjn h2
        · obtain ⟨h1, h2, h3⟩ := h.pq p hp o' ho'
          have hne : p.1 ≠ k := (h.inπ k List.mem_cons_self).2.2 p hp
          have hpl := (h.inP p hp).1
          have hpak := h.pa p hp k List.mem_cons_self
          refine ⟨h1, fun d hd => ?_, fun t ht => ⟨?_, (h3 t ht).2⟩⟩
          · rw [updo_ne]
            · exact h2 d hd
            · intro e
              exact hne (rf.dne p.1 k d hpl hkl (by rw [dstAt_of ho']; exact hd) (by rw [hkd]; exact e))
          · rintro ⟨j, hj, ha, hd⟩
            rw [(h3 t ht).1 ⟨j, hj, ha, hd⟩]
            refine (updo_ne fun e => ?_).symm
            have : j = k := rf.dne j k t hj hkl hd (by rw [hkd]; exact e)
            subst this
            rw [hpak] at ha; cases ha
    · funext t
      unfold cur
      simp only [List.any_cons]
      by_cases e : dstAt l k = some t
      · have hno : pend.any (fun p => dstAt l p.1 == some t) = false := by
          rw [List.any_eq_false]
          intro p hp
          simp only [beq_iff_eq]
          intro e2
          exact (h.inπ k List.mem_cons_self).2.2 p hp (rf.dne p.1 k t (h.inP p hp).1 hkl e2 e)
        simp [e, hno, hbase t e]
      · have e1 : (dstAt l k == some t) = false := by simpa using e
        rw [e1, Bool.false_or, updo_ne (by rw [← hkd]; exact e)]

theorem okOrder_tail {k : Nat} {π : List Nat} (h : okOrder lou b (k :: π) = true) : okOrder lou b π = true := by
  simp only [okOrder, Bool.and_eq_true] at h
  exact h.2
/-- Quiet operations are walked till i is reached. -/
theorem Inv.pops (rf : RegFacts l n b) {listed : Array Bool} {i : Nat} {πb : List Nat} : ∀ (πa : List Nat) {pend : List Pd} {ρf : Nat → Value} {Lp : List SProp}, Inv w0 A ro P l n ds b pu Lq ρ0 listed (πa ++ i :: πb) pend ρf → okOrder lou b (πa ++ i :: πb) = true →
    (∀ k, isAnc b i k = true → k < l.length → listed.getD k false = true) → Ob w0 A ro P l n ds lou pu Lq K (πa ++ i :: πb) ρf Lp →
    ∃ pend' ρf', Inv w0 A ro P l n ds b pu Lq ρ0 listed (i :: πb) pend' ρf' ∧ okOrder lou b (i :: πb) = true ∧ Ob w0 A ro P l n ds lou pu Lq K (i :: πb) ρf' Lp ∧ cur l ρ0 pend' ρf' = cur l ρ0 pend ρf ∧ pend'.length = pend.length + πa.length
  | [], pend, ρf, Lp, h, ho, _, hob => ⟨pend, ρf, h, ho, hob, rfl, by simp⟩
  | k :: πa, pend, ρf, Lp, h, ho, hr, hob => by
    have hq : lou.contains k = false := by
      cases hc : lou.contains k with
      | false => rfl
      | true =>
        have h1 : okOrder lou b (k :: (πa ++ i :: πb)) = true := ho
        simp only [okOrder, Bool.and_eq_true, hc, Bool.not_true, Bool.false_or, List.all_eq_true] at h1
        have h2 := h1.1.1 i (by simp)
        obtain ⟨h3, h4, _⟩ := h.inπ k (by simp)
        rw [hr k h2 h3] at h4; cases h4
    obtain ⟨v, o, _, hi, hob', hc⟩ := h.pop rf ho hq hob
    obtain ⟨pend', ρf', h1, h2, h3, h4, h5⟩ := Inv.pops rf πa hi (okOrder_tail ho) hr hob'
    exact ⟨pend', ρf', h1, h2, h3, h4.trans hc, by rw [h5]; simp; omega⟩

theorem getD_set {listed : Array Bool} {i j : Nat} (hi : i < listed.size) : (listed.setIfInBounds i true).getD j false = if j = i then true else listed.getD j false := by
  by_cases e : j = i
  · subst e; simp [hi]
  · have e' : i ≠ j := fun h => e h.symm
    simp [Array.getElem?_setIfInBounds_ne e', e]

theorem draw_sound (rf : RegFacts l n b) (hbm : b = masks l []) {Q : Exit → Act → World → Prop} (hK : ∀ ρ L, K ρ L → G w0 A L (fun w => Q .normal (act n ρ ds) w)) :
    ∀ (k : Nat) (Lq : List SProp) (listed : Array Bool) (π : List Nat) (pend : List Pd) (ρf : Nat → Value) (Lp : List SProp) (w : World), Inv w0 A ro P l n ds b pu Lq ρ0 listed π pend ρf → okOrder lou b π = true → Ob w0 A ro P l n ds lou pu Lq K π ρf Lp →
      k = pend.length + π.length → Std w0 w → holds (star A (sl (Lq ++ Lp))) w → wpAnyIn (WF ro) 0 P .any l.toArray Q k listed (act n (cur l ρ0 pend ρf) ds) w := by
  intro k
  induction k with
  | zero =>
    intro Lq listed π pend ρf Lp w hI ho hob hk hw hh
    have hp : pend = [] := List.eq_nil_of_length_eq_zero (by omega)
    have hπ : π = [] := List.eq_nil_of_length_eq_zero (by omega)
    subst hp hπ
    refine ⟨?_, ?_⟩
    · unfold Region.ready
      rw [List.filter_eq_nil_iff]
      intro i hi
      have hil : i < l.length := by simpa using hi
      have h1 : listed.getD i false = true := by
        rcases hI.all i hil with h1 | ⟨p, hp, _⟩ | h1
        · exact h1
        · cases hp
        · cases h1
      have h2 : listed.getD i true = true := by
        have his : i < listed.size := by rw [hI.sz]; exact hil
        simp [his] at h1 ⊢
        exact h1
      rw [h2]
      simp
    · have h4 := hK ρf (Lq ++ Lp) (by simpa [Ob, ObR] using hob) w hw hh
      have e : cur l ρ0 [] ρf = ρf := by funext t; simp [cur]
      rw [e]
      exact h4
  | succ k ih =>
    intro Lq listed π pend ρf Lp w hI ho hob hk hw hh
    have getT : ∀ i, i < l.length → listed.getD i true = listed.getD i false := fun i hi => by
      have his : i < listed.size := by rw [hI.sz]; exact hi
      simp [his]
    refine ⟨?_, ?_⟩
    · -- something is ready: the least that is not listed
      intro hnil
      exfalso
      obtain ⟨j, hj, hjl⟩ : ∃ j, j < l.length ∧ listed.getD j false = false := by
        cases pend with
        | cons p _ => exact ⟨p.1, (hI.inP p List.mem_cons_self).1, (hI.inP p List.mem_cons_self).2⟩
        | nil =>
          cases π with
          | cons j _ => exact ⟨j, (hI.inπ j List.mem_cons_self).1, (hI.inπ j List.mem_cons_self).2.1⟩
          | nil => simp at hk
      have key : ∀ j, j < l.length → listed.getD j false = true := by
        intro j
        induction j using Nat.strongRecOn with
        | _ j ihj =>
          intro hj
          cases hc : listed.getD j false with
          | true => rfl
          | false =>
            have : j ∈ Region.ready .any l.toArray listed := by
              unfold Region.ready
              rw [List.mem_filter]
              refine ⟨by simpa using hj, ?_⟩
              rw [getT j hj, hc]
              simp only [Bool.not_false, Bool.true_and, List.getElem?_toArray, List.getElem?_eq_getElem hj, Option.map_some, Option.getD_some]
              rw [Array.all_eq_true_iff_forall_mem]
              intro e he
              cases hb : Region.binds .any e with
              | false => rfl
              | true =>
                have hlt := rf.back j l[j] (List.getElem?_eq_getElem hj) e he hb
                simpa using ihj e.on hlt (by omega)
            rw [hnil] at this; cases this
      rw [key j hj] at hjl; cases hjl
    · intro i hi
      unfold Region.ready at hi
      rw [List.mem_filter] at hi
      obtain ⟨hil, hi⟩ := hi
      have hil : i < l.length := by simpa using hil
      rw [getT i hil] at hi
      simp only [Bool.and_eq_true, List.getElem?_toArray, List.getElem?_eq_getElem hil, Option.map_some, Option.getD_some] at hi
      obtain ⟨hnl, hed⟩ := hi
      have hnl : listed.getD i false = false := by simpa using hnl
      rw [Array.all_eq_true_iff_forall_mem] at hed
      have hoi : l[i]? = some l[i] := List.getElem?_eq_getElem hil
      -- its ancestors are listed
      have hanc : ∀ j, isAnc b i j = true → j < l.length → listed.getD j false = true := by
        intro j ha hj
        obtain ⟨e, he, hb, hx⟩ := rf.step i l[i] hoi j hj ha
        have h1 := hed e he
        rw [hb] at h1
        simp only [Bool.not_true, Bool.false_or] at h1
        rcases hx with rfl | hx
        · exact h1
        · exact hI.closed e.on j h1 hx hj
      have hlsz : i < listed.size := by rw [hI.sz]; exact hil
      have hclosed' : ∀ x y, (listed.setIfInBounds i true).getD x false = true → isAnc b x y = true → y < l.length → (listed.setIfInBounds i true).getD y false = true := by
        intro x y hx ha hy
        rw [getD_set hlsz] at hx ⊢
        split
        · rfl
        · split at hx
          · rename_i e; subst e; exact hanc y ha hy
          · exact hI.closed x y hx ha hy
      -- the case of an operation that has been walked and not run
      have pendCase : ∀ (π : List Nat) (pend : List Pd) (ρf : Nat → Value), Inv w0 A ro P l n ds b pu Lq ρ0 listed π pend ρf → okOrder lou b π = true → Ob w0 A ro P l n ds lou pu Lq K π ρf Lp → k + 1 = pend.length + π.length → (∃ p ∈ pend, p.1 = i) →
          wpOpIn (WF ro) 0 P l.toArray Q i (wpAnyIn (WF ro) 0 P .any l.toArray Q k (listed.setIfInBounds i true)) (act n (cur l ρ0 pend ρf) ds) w := by
        rintro π pend ρf hI ho hob hk ⟨p, hp, hpi⟩
        obtain ⟨hst, hdv, hlk⟩ := hI.pq p hp l[i] (by rw [hpi]; exact hoi)
        have hopd := rf.op i l[i] hoi
        have hcl : ∀ t ∈ (l[i]).looksAt l.toArray, cur l ρ0 pend ρf t = p.2.1 t := by
          intro t ht
          unfold cur
          cases hany : pend.any (fun p => dstAt l p.1 == some t) with
          | true =>
            rw [cond_true]
            rw [List.any_eq_true] at hany
            obtain ⟨q, hq, hqd⟩ := hany
            have hqd : dstAt l q.1 = some t := by simpa using hqd
            refine ((hlk t ht).2 fun j hj ha e => ?_).symm
            have : j = q.1 := rf.dne j q.1 t hj (hI.inP q hq).1 e hqd
            rw [hpi] at ha
            rw [this] at ha
            have := hanc q.1 ha (hI.inP q hq).1
            rw [(hI.inP q hq).2] at this; cases this
          | false =>
            rw [cond_false]
            by_cases hex : ∃ j, j < l.length ∧ isAnc b p.1 j = true ∧ dstAt l j = some t
            · exact ((hlk t ht).1 hex).symm
            · have hno : ∀ j, j < l.length → isAnc b p.1 j = true → dstAt l j ≠ some t := fun j hj ha e => hex ⟨j, hj, ha, e⟩
              rw [(hlk t ht).2 hno]
              refine hI.base t fun j hj hjn e => ?_
              have hjp : ∀ q ∈ pend, q.1 ≠ j := fun q hq e2 => by
                have : pend.any (fun p => dstAt l p.1 == some t) = true := by
                  rw [List.any_eq_true]
                  exact ⟨q, hq, by rw [e2, e]; simp⟩
                rw [hany] at this; cases this
              rcases rf.look i l[i] hoi t ht j hj e with h1 | h1 | h1
              · exact hno j hj (by rw [hpi]; exact h1) e
              · exact hjp p hp (by rw [hpi, h1])
              · rcases hI.all j hj with h2 | ⟨q, hq, e2⟩ | h2
                · have := hI.closed j i h2 h1 hil
                  rw [hnl] at this; cases this
                · exact hjp q hq e2
                · exact hjn h2
        have hrun := (hst.1 Lp).run (ρ' := cur l ρ0 pend ρf) (by intro c e; rw [e] at hopd; cases hopd) (by intro cs bb e; rw [e] at hopd; cases hopd) (rf.dlt i l[i] hoi) hcl hw hh
          (next := wpAnyIn (WF ro) 0 P .any l.toArray Q k (listed.setIfInBounds i true)) (Q := Q) (fun v u M w' hr hvu hw' hh' => ?_)
        · unfold wpOpIn
          simp only [List.getElem?_toArray, hoi]
          split
          · rename_i hwant; rw [if_pos hwant] at hrun; exact hrun
          · rename_i hwant; rw [if_neg hwant] at hrun; exact ⟨fun _ _ => trivial, hrun⟩
        · obtain ⟨rfl, rfl⟩ := hr
          -- it has been run
          obtain ⟨pa, pb, hpp⟩ := List.append_of_mem hp
          have hnP := hI.nP
          rw [hpp, List.map_append, List.map_cons] at hnP
          have hsplit := List.nodup_append.1 hnP
          have hne : ∀ q ∈ pa ++ pb, q.1 ≠ i := by
            intro q hq e
            rcases List.mem_append.1 hq with hq | hq
            · exact hsplit.2.2 q.1 (List.mem_map.2 ⟨q, hq, rfl⟩) p.1 List.mem_cons_self (by rw [e, hpi])
            · exact (List.nodup_cons.1 hsplit.2.1).1 (by rw [hpi, ← e]; exact List.mem_map.2 ⟨q, hq, rfl⟩)
          have hmem : ∀ q, q ∈ pa ++ pb → q ∈ pend := fun q hq => by
            rw [hpp]
            rcases List.mem_append.1 hq with hq | hq
            · exact List.mem_append_left _ hq
            · exact List.mem_append_right _ (List.mem_cons_of_mem _ hq)
          have hmem' : ∀ q, q ∈ pend → q = p ∨ q ∈ pa ++ pb := fun q hq => by
            rw [hpp] at hq
            rcases List.mem_append.1 hq with hq | hq
            · exact .inr (List.mem_append_left _ hq)
            · rcases List.mem_cons.1 hq with hq | hq
              · exact .inl hq
              · exact .inr (List.mem_append_right _ hq)
          have hcur : updo (cur l ρ0 pend ρf) (l[i]).dst v = cur l ρ0 (pa ++ pb) ρf := by
            funext t
            by_cases e : (l[i]).dst = some t
            · have h1 : (pa ++ pb).any (fun p => dstAt l p.1 == some t) = false := by
                rw [List.any_eq_false]
                intro q hq
                simp only [beq_iff_eq]
                intro e2
                exact hne q hq (rf.dne q.1 i t (hI.inP q (hmem q hq)).1 hil e2 (by rw [dstAt_of hoi]; exact e))
              rw [e]
              simp only [updo, upd_same, cur, h1]
              rw [hvu t e]
              exact (hdv t e).symm
            · rw [updo_ne e]
              unfold cur
              have : pend.any (fun p => dstAt l p.1 == some t) = (pa ++ pb).any (fun p => dstAt l p.1 == some t) := by
                have hpd : (dstAt l p.1 == some t) = false := by rw [hpi, dstAt_of hoi]; simpa using e
                rw [hpp]
                simp [hpd]
              rw [this]
          rw [hcur]
          refine ih Lq (listed.setIfInBounds i true) π (pa ++ pb) ρf Lp w' ?_ ho hob (by rw [hpp] at hk; simp at hk ⊢; omega) hw' hh'
          refine ⟨by simpa using hI.sz, ?_, ?_, ?_, hI.nπ, ?_, hclosed', hI.base, fun q hq => hI.pa q (hmem q hq), fun q hq => hI.pq q (hmem q hq)⟩
          · intro j hj
            obtain ⟨h1, h2, h3⟩ := hI.inπ j hj
            have hji : j ≠ i := fun e => h3 p hp (by rw [hpi, e])
            exact ⟨h1, by rw [getD_set hlsz, if_neg hji]; exact h2, fun q hq => h3 q (hmem q hq)⟩
          · intro q hq
            obtain ⟨h1, h2⟩ := hI.inP q (hmem q hq)
            exact ⟨h1, by rw [getD_set hlsz, if_neg (hne q hq)]; exact h2⟩
          · intro j hj
            rw [getD_set hlsz]
            by_cases e : j = i
            · left; rw [if_pos e]
            · rw [if_neg e]
              rcases hI.all j hj with h1 | ⟨q, hq, e2⟩ | h1
              · exact .inl h1
              · rcases hmem' q hq with rfl | hq'
                · exact absurd (e2.symm.trans hpi) e
                · exact .inr (.inl ⟨q, hq', e2⟩)
              · exact .inr (.inr h1)
          · rw [List.map_append, List.nodup_append]
            exact ⟨hsplit.1, (List.nodup_cons.1 hsplit.2.1).2, fun x hx y hy => hsplit.2.2 x hx y (List.mem_cons_of_mem _ hy)⟩
      rcases hI.all i hil with h1 | h1 | h1
      · rw [hnl] at h1; cases h1
      · exact pendCase π pend ρf hI ho hob (by omega) h1
      · obtain ⟨πa, πb, hπ⟩ := List.append_of_mem h1
        subst hπ
        obtain ⟨pend', ρf', hI', ho', hob', hcur, hlen⟩ := hI.pops rf πa ho hanc hob
        rw [← hcur]
        cases hl : lou.contains i with
        | false =>
          obtain ⟨v, o, _, hI2, hob2, hc2⟩ := hI'.pop rf ho' hl hob'
          rw [← hc2]
          exact pendCase πb _ _ hI2 (okOrder_tail ho') hob2 (by simp at hk ⊢; omega) ⟨_, List.mem_cons_self, rfl⟩
        | true =>
          simp only [Ob, ObR, hoi, hl, if_true] at hob'
          have hopd := rf.op i l[i] hoi
          have hcl : ∀ t ∈ (l[i]).looksAt l.toArray, cur l ρ0 pend' ρf' t = ρf' t := by
            intro t ht
            unfold cur
            have hno : pend'.any (fun p => dstAt l p.1 == some t) = false := by
             rw [List.any_eq_false]
             intro q hq
             simp only [beq_iff_eq]
             intro hqd
             have hql := (hI'.inP q hq).1
             rcases rf.look i l[i] hoi t ht q.1 hql hqd with h2 | h2 | h2
             · have := hanc q.1 h2 hql
               rw [(hI'.inP q hq).2] at this; cases this
             · exact (hI'.inπ i List.mem_cons_self).2.2 q hq h2.symm
             · rw [hI'.pa q hq i List.mem_cons_self] at h2; cases h2
            rw [hno]
            rfl
          have hrun := hob'.run (ρ' := cur l ρ0 pend' ρf') (by intro c e; rw [e] at hopd; cases hopd) (by intro cs bb e; rw [e] at hopd; cases hopd) (rf.dlt i l[i] hoi) hcl hw hh
            (next := wpAnyIn (WF ro) 0 P .any l.toArray Q k (listed.setIfInBounds i true)) (Q := Q) (fun v u M w' hr hvu hw' hh' => ?_)
          · unfold wpOpIn
            simp only [List.getElem?_toArray, hoi]
            split
            · rename_i hwant; rw [if_pos hwant] at hrun; exact hrun
            · rename_i hwant; rw [if_neg hwant] at hrun; exact ⟨fun _ _ => trivial, hrun⟩
          · obtain ⟨Lq', Lp', he, hsy, hob2⟩ := hr
            have hp0 : Lq' = Lq ∨ ∀ q ∈ pend', pu.contains q.1 = true := hsy.imp id fun hs q hq => by
              obtain ⟨hql, hqn⟩ := hI'.inP q hq
              rw [← hbm] at hs
              simp only [okSync, List.all_eq_true, List.mem_range, Bool.or_eq_true, beq_iff_eq] at hs
              rcases hs q.1 hql with (h2 | h2 | h2) | h2
              · exact absurd rfl ((hI'.inπ q.1 (List.mem_cons_of_mem _ (by simpa using h2))).2.2 q hq)
              · exact absurd h2 ((hI'.inπ i List.mem_cons_self).2.2 q hq)
              · rw [hanc q.1 h2 hql] at hqn; cases hqn
              · exact h2
            replace hh' := hh'.ent ((Ent.refl A).star he)
            obtain ⟨hin, hπn⟩ := List.nodup_cons.1 hI'.nπ
            have hnd : ∀ q ∈ pend', ∀ t, (l[i]).dst = some t → dstAt l q.1 ≠ some t := fun q hq t e e2 =>
              (hI'.inπ i List.mem_cons_self).2.2 q hq (rf.dne q.1 i t (hI'.inP q hq).1 hil e2 (by rw [dstAt_of hoi]; exact e))
            have hcur2 : updo (cur l ρ0 pend' ρf') (l[i]).dst v = cur l ρ0 pend' (updo ρf' (l[i]).dst u) := by
              funext t
              by_cases e : (l[i]).dst = some t
              · have h2 : pend'.any (fun p => dstAt l p.1 == some t) = false := by
                  rw [List.any_eq_false]
                  intro q hq
                  simp only [beq_iff_eq]
                  exact hnd q hq t e
                rw [e]
                simp only [updo, upd_same, cur, h2]
                rw [hvu t e]
                simp
              · rw [updo_ne e]
                unfold cur
                rw [updo_ne e]
            rw [hcur2]
            refine ih Lq' (listed.setIfInBounds i true) πb pend' _ Lp' w' ?_ (okOrder_tail ho') hob2 (by simp at hk hlen ⊢; omega) hw' hh'
            refine ⟨by simpa using hI'.sz, ?_, ?_, ?_, hπn, hI'.nP, hclosed', ?_, ?_, ?_⟩
            · intro j hj
              obtain ⟨h2, h3, h4⟩ := hI'.inπ j (List.mem_cons_of_mem _ hj)
              have hji : j ≠ i := fun e => hin (by rw [← e]; exact hj)
              exact ⟨h2, by rw [getD_set hlsz, if_neg hji]; exact h3, h4⟩
            · intro q hq
              obtain ⟨h2, h3⟩ := hI'.inP q hq
              exact ⟨h2, by rw [getD_set hlsz, if_neg ((hI'.inπ i List.mem_cons_self).2.2 q hq)]; exact h3⟩
            · intro j hj
              rw [getD_set hlsz]
              by_cases e : j = i
              · left; rw [if_pos e]
              · rw [if_neg e]
                rcases hI'.all j hj with h2 | h2 | h2
                · exact .inl h2
                · exact .inr (.inl h2)
                · rcases List.mem_cons.1 h2 with h2 | h2
                  · exact absurd h2 e
                  · exact .inr (.inr h2)
            · intro t ht
              rw [updo_ne (by rw [← dstAt_of hoi]; exact ht i hil hin)]
              exact hI'.base t fun j hj hjn => ht j hj fun hjm => hjn (List.mem_cons_of_mem _ hjm)
            · intro q hq j hj
              exact hI'.pa q hq j (List.mem_cons_of_mem _ hj)
            · intro q hq o' ho2
              obtain ⟨h2, h3, h4⟩ := hI'.pq q hq o' ho2
              replace h2 : (∀ X, OStep w0 A ro P l.toArray n ds q.2.1 (Lq' ++ X) o' (fun u M => u = q.2.2 ∧ M = Lq' ++ X)) ∧ (pu.contains q.1 = true → ∀ X, OStep w0 A ro P l.toArray n ds q.2.1 X o' (fun u M => u = q.2.2 ∧ M = X)) := by
                rcases hp0 with rfl | hp0
                · exact h2
                · exact ⟨fun X => h2.2 (hp0 q hq) (Lq' ++ X), h2.2⟩
              refine ⟨h2, fun d hd => ?_, fun t ht => ⟨?_, (h4 t ht).2⟩⟩
              · rw [updo_ne]
                · exact h3 d hd
                · intro e; exact hnd q hq d e (by rw [dstAt_of ho2]; exact hd)
              · rintro ⟨j, hj, ha, hd⟩
                rw [(h4 t ht).1 ⟨j, hj, ha, hd⟩]
                refine (updo_ne fun e => ?_).symm
                have : j = i := rf.dne j i t hj hil hd (by rw [dstAt_of hoi]; exact e)
                subst this
                rw [hI'.pa q hq j List.mem_cons_self] at ha; cases ha
end sound

/-- **A region that draws its order.** 'lou': the loud operations (they may change what is owned; each two of them are ordered); 'π': the order in which the walk takes all; 'Lq': what the quiet ones may read. -/
theorem g_draw {L : List SProp} {Q : Exit → Act → World → Prop} {ρ : Nat → Value} {id : Nat} {l : List Oper} (lou pu π : List Nat) (Lq : List SProp) {Lp : List SProp} (hm : P.follows .mixedOrders = true)
    (hok : (okRegion l n (masks l []) && okOrder lou (masks l []) π && okPerm l.length π) = true) [tk : Take L Lq Lp]
    (h : Ob w0 A ro P l n ds lou pu Lq (fun ρ' L' => G w0 A L' (fun w => Q .normal (act n ρ' ds) w)) π ρ Lp) :
    G w0 A L (fun w => (Code.region id l.toArray true).wpIn (WF ro) 0 P Q (act n ρ ds) w) := by
  simp only [Bool.and_eq_true] at hok
  obtain ⟨⟨h1, h2⟩, h3⟩ := hok
  refine G.perm tk.perm fun w hw hh => ?_
  refine wpIn_region_any hm ?_
  simp only [okPerm, Bool.and_eq_true, beq_iff_eq, List.all_eq_true, List.mem_range] at h3
  obtain ⟨⟨hlen, hall⟩, hnd, hlt⟩ := h3
  have hmem : ∀ i, i < l.length → i ∈ π := fun i hi => by simpa using hall i hi
  have hin : ∀ j ∈ π, j < l.length := fun j hj => by have := hlt j hj; rwa [Nat.blt_eq] at this
  have hrep : ∀ j, (Array.replicate l.toArray.size false).getD j false = false := fun j => by
    simp only [Array.getD_eq_getD_getElem?, Array.getElem?_replicate]
    split <;> rfl
  have := draw_sound (ro := ro) (P := P) (ρ0 := ρ) (RegFacts.of h1) rfl (Q := Q) (fun _ _ x => x) l.toArray.size Lq (Array.replicate l.toArray.size false) π [] ρ Lp w.drew ?_ h2 h (by simp [hlen]) (hw.trans (.drew w)) (hh.le (Le.refl _))
  · have e : cur l ρ [] ρ = ρ := by funext t; simp [cur]
    rw [e] at this
    exact this
  · refine ⟨by simp, ?_, by simp, ?_, nodup_of hnd, by simp, ?_, ?_, by simp, by simp⟩
    · intro j hj
      exact ⟨hin j hj, hrep j, by simp⟩
    · intro j hj
      exact .inr (.inr (hmem j hj))
    · intro i j hi
      rw [hrep i] at hi; cases hi
    · intro t _
      rfl

section
variable {l : List Oper} {lou pu : List Nat} {Lq : List SProp} {K : (Nat → Value) → List SProp → Prop} {i : Nat} {π : List Nat} {ρ : Nat → Value} {Lp : List SProp} {o : Oper}
theorem ob_nil (h : K ρ (Lq ++ Lp)) : Ob w0 A ro P l n ds lou pu Lq K [] ρ Lp := h
theorem ob_q (hi : l[i]? = some o) (hl : lou.contains i = false) (hp : pu.contains i = false) (h : ∃ v, (∀ X, OStep w0 A ro P l.toArray n ds ρ (Lq ++ X) o (fun u M => u = v ∧ M = Lq ++ X)) ∧ Ob w0 A ro P l n ds lou pu Lq K π (updo ρ o.dst v) Lp) :
    Ob w0 A ro P l n ds lou pu Lq K (i :: π) ρ Lp := by
  simp only [Ob, ObR, hi, hl]
  obtain ⟨v, h1, h2⟩ := h
  exact ⟨v, ⟨h1, fun e => by rw [hp] at e; cases e⟩, h2⟩
/-- A pure operation. -/
theorem ob_p (hi : l[i]? = some o) (hl : lou.contains i = false) (h : ∃ v, (∀ X, OStep w0 A ro P l.toArray n ds ρ X o (fun u M => u = v ∧ M = X)) ∧ Ob w0 A ro P l n ds lou pu Lq K π (updo ρ o.dst v) Lp) :
    Ob w0 A ro P l n ds lou pu Lq K (i :: π) ρ Lp := by
  simp only [Ob, ObR, hi, hl]
  obtain ⟨v, h1, h2⟩ := h
  exact ⟨v, ⟨fun X => h1 (Lq ++ X), fun _ => h1⟩, h2⟩
/-- A loud operation. -/
theorem ob_l (hi : l[i]? = some o) (hl : lou.contains i = true) (h : OStep w0 A ro P l.toArray n ds ρ (Lq ++ Lp) o (fun v M => ∃ Lp', Ent (sl M) (sl (Lq ++ Lp')) ∧ Ob w0 A ro P l n ds lou pu Lq K π (updo ρ o.dst v) Lp')) :
    Ob w0 A ro P l n ds lou pu Lq K (i :: π) ρ Lp := by
  simp only [Ob, ObR, hi, hl, if_true]
  exact fun Q hn => h Q fun v M ⟨Lp', h1, h2⟩ => hn v M ⟨Lq, Lp', h1, .inl rfl, h2⟩
/-- A loud operation that all that was walked ahead of it are ancestors of: from here on other things may be read. -/
theorem ob_s (Lq' : List SProp) (hi : l[i]? = some o) (hl : lou.contains i = true) (hs : okSync (masks l []) l.length i π pu = true)
    (h : OStep w0 A ro P l.toArray n ds ρ (Lq ++ Lp) o (fun v M => ∃ Lp', Ent (sl M) (sl (Lq' ++ Lp')) ∧ Ob w0 A ro P l n ds lou pu Lq' K π (updo ρ o.dst v) Lp')) :
    Ob w0 A ro P l n ds lou pu Lq K (i :: π) ρ Lp := by
  simp only [Ob, ObR, hi, hl, if_true]
  exact fun Q hn => h Q fun v M ⟨Lp', h1, h2⟩ => hn v M ⟨Lq', Lp', h1, .inr hs, h2⟩
end
end
end Go.Sl.Pu
/- The law on the order of preferences, walked. -/
namespace Go.Proofs.Ytljiooihhfndjaa
open Go Go.Sl
attribute [local irreducible] Exit.then Exit.inBlock Code.wpIn roundPost bodyPostM runL Ret Meets Begin

theorem DecOfK_spec (b : Nat) (A : Option Addr) (n c : Nat) (l : List PrefD) (hl : l.length = n) (hm : n ≤ 10000) (draw : Int) {x : ChD} (h : decP l draw = x) :
    Ctr Try.prog 12 [.func (.func 40) #[] #[.pointer (some ⟨b, 0, none⟩)], .int .i64 draw] [psl encP 16 A l, ofK b A n c]
      (fun v M => ∃ S e, v = chD x S e ∧ M = [psl encS 3 S x.items, psl encP 16 A l, ofK b A n c]) := by
  rw [← h]; exact DecOf_spec b A n c l hl hm draw
theorem orders_core {l ms us : List PrefD} {k : Nat} (hp : ms.Perm l) (hm : us.map core = (ms ++ l.take k).map core) (draw : Int) : decP us draw = decP l draw := by
  have h1 : ∀ c, c ∈ us.map core ↔ c ∈ l.map core := fun c => by
    rw [hm, List.map_append, List.mem_append]
    constructor
    · rintro (h | h)
      · exact (hp.map core).mem_iff.1 h
      · obtain ⟨p, hp, e⟩ := List.mem_map.1 h
        exact List.mem_map.2 ⟨p, List.mem_of_mem_take hp, e⟩
    · exact fun h => .inl ((hp.map core).mem_iff.2 h)
  refine decP_core (fun p hp => ?_) (fun p hp => ?_) draw
  · obtain ⟨q, hq, e⟩ := List.mem_map.1 ((h1 _).1 (List.mem_map.2 ⟨p, hp, rfl⟩)); exact ⟨q, hq, e⟩
  · obtain ⟨q, hq, e⟩ := List.mem_map.1 ((h1 _).2 (List.mem_map.2 ⟨p, hp, rfl⟩)); exact ⟨q, hq, e⟩
theorem set_core {us : List PrefD} {j : Nat} {p p1 p2 : PrefD} (h : us[j]? = some p) (hc : core p2 = core p) : ((us.set j p1).set j p2).map core = us.map core := by
  rw [List.set_set, List.map_set, hc]
  have hj := (List.getElem?_eq_some_iff.1 h).1
  refine List.ext_getElem? fun i => ?_
  rw [List.getElem?_set]
  split
  · rename_i e; subst e
    rw [List.length_map, if_pos hj, List.getElem?_map, h]; rfl
  · rfl
theorem swap_perm {α : Type} {ms : List α} {i j : Nat} {a b : α} (ha : ms[i]? = some a) (hb : ms[j]? = some b) : ((ms.set i b).set j a).Perm ms := by
  obtain ⟨hi, rfl⟩ := List.getElem?_eq_some_iff.1 ha
  obtain ⟨hj, rfl⟩ := List.getElem?_eq_some_iff.1 hb
  exact List.set_set_perm hi hj
abbrev oP (S : Option Addr) (c : Nat) (l : List PrefD) : SProp := osl 35 encP 16 S c l
set_option maxHeartbeats 2000000 in
theorem PickOrders_spec (A : Option Addr) (n c : Nat) (l : List PrefD) (hl : l.length = n) (hn : n ≤ 9223372036854775807) (hcap : n ≤ c) (turn draw : Int) : Ctr Try.prog 4 [.slice A n c, .int .i64 turn, .int .i64 draw] [psl encP 16 A l] (fun v M => v = .bool true ∧ M = []) := by
  refine spec_of Try.func4 rfl Try.ntmps4 rfl fun w0 F => ?_
  -- ponder/ponderlaw18.PickOrders
  repeat (first | refine g_endt ?_ | refine g_end ?_ | refine g_then ?_ | refine g_in_normal ?_ | refine g_then_ret ?_ | refine g_in_ret ?_ | refine g_then_exit ?_ | refine g_in_exit rfl ?_ | refine g_in_exit_ne (by decide) ?_ | refine g_seq ?_ | refine g_region ?_ | refine g_block ?_ | refine g_ret ?_ | refine g_return_n ?_ | refine g_exit ?_ | refine g_skip ?_)
  refine o_assign ?_
  first | refine g_endt ?_ | refine g_end ?_
  repeat (first | refine g_endt ?_ | refine g_end ?_ | refine g_then ?_ | refine g_in_normal ?_ | refine g_then_ret ?_ | refine g_in_ret ?_ | refine g_then_exit ?_ | refine g_in_exit rfl ?_ | refine g_in_exit_ne (by decide) ?_ | refine g_seq ?_ | refine g_region ?_ | refine g_block ?_ | refine g_ret ?_ | refine g_return_n ?_ | refine g_exit ?_ | refine g_skip ?_)
  refine o_move ?_
  refine o_len rfl rfl ?_
  refine o_gtr rfl rfl ?_
  first | refine g_endt ?_ | refine g_end ?_
  by_cases h : 40 < n
  · first | refine g_seq (g_cond_t rfl (by simp only [gt_iff_lt, decide_eq_true_eq]; omega) ?_) | refine g_cond_t rfl (by simp only [gt_iff_lt, decide_eq_true_eq]; omega) ?_
    repeat (first | refine g_endt ?_ | refine g_end ?_ | refine g_then ?_ | refine g_in_normal ?_ | refine g_then_ret ?_ | refine g_in_ret ?_ | refine g_then_exit ?_ | refine g_in_exit rfl ?_ | refine g_in_exit_ne (by decide) ?_ | refine g_seq ?_ | refine g_region ?_ | refine g_block ?_ | refine g_ret ?_ | refine g_return_n ?_ | refine g_exit ?_ | refine g_skip ?_)
    refine o_call (wakes18_spec) rfl rfl ?_
    rintro _ _ ⟨rfl, rfl⟩
    refine o_assign ?_
    first | refine g_endt ?_ | refine g_end ?_
    repeat (first | refine g_endt ?_ | refine g_end ?_ | refine g_then ?_ | refine g_in_normal ?_ | refine g_then_ret ?_ | refine g_in_ret ?_ | refine g_then_exit ?_ | refine g_in_exit rfl ?_ | refine g_in_exit_ne (by decide) ?_ | refine g_seq ?_ | refine g_region ?_ | refine g_block ?_ | refine g_ret ?_ | refine g_return_n ?_ | refine g_exit ?_ | refine g_skip ?_)
    exact ret1 (K := []) rfl (resT rfl) ⟨rfl, rfl⟩
  first | refine g_seq (g_cond_f rfl (by simp only [gt_iff_lt, decide_eq_false_iff_not]; omega) ?_) | refine g_cond_f rfl (by simp only [gt_iff_lt, decide_eq_false_iff_not]; omega) ?_
  obtain ⟨k, hk⟩ : ∃ k : Nat, (turn % ((n + 1 : Nat) : Int)).toNat = k := ⟨_, rfl⟩
  have hkn : k ≤ n := by have := Int.emod_lt_of_pos turn (show (0 : Int) < ((n + 1 : Nat) : Int) by omega); have := Int.emod_nonneg turn (show ((n + 1 : Nat) : Int) ≠ 0 by omega); omega
  repeat (first | refine g_endt ?_ | refine g_end ?_ | refine g_then ?_ | refine g_in_normal ?_ | refine g_then_ret ?_ | refine g_in_ret ?_ | refine g_then_exit ?_ | refine g_in_exit rfl ?_ | refine g_in_exit_ne (by decide) ?_ | refine g_seq ?_ | refine g_region ?_ | refine g_block ?_ | refine g_ret ?_ | refine g_return_n ?_ | refine g_exit ?_ | refine g_skip ?_)
  refine o_move ?_
  refine o_move ?_
  refine o_len rfl rfl ?_
  refine o_add (c := ((n + 1 : Nat) : Int)) rfl rfl (by omega) (by omega) (by omega) ?_
  refine o_call (Within_spec turn (n + 1) (by omega) (by omega)) rfl rfl ?_
  rintro _ _ ⟨rfl, rfl⟩
  refine o_assign ?_
  first | refine g_endt ?_ | refine g_end ?_
  rw [hk]
  have hdl : (l.drop k).length = n - k := by simp; omega
  have htk : (l.take k).length = k := by simp; omega
  refine G.taken (enc := encP) (sz := 16) (S := A) (xs := l) k ?_
  refine G.dropped (enc := encP) (sz := 16) (S := A) (xs := l) c k (by omega) ?_
  refine G.nil_slice 35 encP 16 ?_
  repeat (first | refine g_endt ?_ | refine g_end ?_ | refine g_then ?_ | refine g_in_normal ?_ | refine g_then_ret ?_ | refine g_in_ret ?_ | refine g_then_exit ?_ | refine g_in_exit rfl ?_ | refine g_in_exit_ne (by decide) ?_ | refine g_seq ?_ | refine g_region ?_ | refine g_block ?_ | refine g_ret ?_ | refine g_return_n ?_ | refine g_exit ?_ | refine g_skip ?_)
  refine g_draw [3,7] [0,1,2,4,5,6,3,7,8] [psl encP 16 (offA A c k 16) (l.drop k), psl encP 16 A (l.take k)] mixed rfl ?_
  refine ob_q rfl rfl ⟨_, fun X Q h => o_move (g_end (h _ _ ⟨rfl, rfl⟩)), ?_⟩
  refine ob_q rfl rfl ⟨_, fun X Q h => o_move (g_end (h _ _ ⟨rfl, rfl⟩)), ?_⟩
  refine ob_q rfl rfl ⟨_, fun X Q h => o_fromP (k := k) rfl rfl rfl hkn (g_end (h _ _ ⟨rfl, rfl⟩)), ?_⟩
  refine ob_q rfl rfl ⟨_, fun X Q h => o_move (g_end (h _ _ ⟨rfl, rfl⟩)), ?_⟩
  refine ob_q rfl rfl ⟨_, fun X Q h => o_move (g_end (h _ _ ⟨rfl, rfl⟩)), ?_⟩
  refine ob_q rfl rfl ⟨_, fun X Q h => o_uptoP (k := k) rfl rfl rfl (by omega) (g_end (h _ _ ⟨rfl, rfl⟩)), ?_⟩
  refine ob_l rfl rfl fun Qz hz => o_append0 (ys := l.drop k) rfl rfl rfl rfl hdl (by rw [hdl]; simp [maxLen]; omega) (by rw [hdl]; omega) fun S1 c1 => ?_
  refine g_end (hz _ _ ⟨_, ob_fin, ?_⟩)
  clear hz Qz
  refine ob_l rfl rfl fun Qz hz => o_append (xs := l.drop k) (ys := l.take k) (by rw [hdl]; rfl) rfl rfl rfl htk (fun _ => .inr trivial) (by simp [maxLen]; omega) (by simp; omega) fun S2 c2 => ?_
  refine g_end (hz _ _ ⟨_, ob_fin, ?_⟩)
  clear hz Qz
  refine ob_q rfl rfl ⟨_, fun X Q h => o_assign (g_end (h _ _ ⟨rfl, rfl⟩)), ?_⟩
  refine ob_nil ?_
  have hpm : (l.drop k ++ l.take k).Perm l := (List.perm_append_comm).trans (by rw [List.take_append_drop])
  have hln : (l.drop k).length + (l.take k).length = n := by omega
  generalize l.drop k ++ l.take k = ms0 at hpm ⊢
  repeat (first | refine g_endt ?_ | refine g_end ?_ | refine g_then ?_ | refine g_in_normal ?_ | refine g_then_ret ?_ | refine g_in_ret ?_ | refine g_then_exit ?_ | refine g_in_exit rfl ?_ | refine g_in_exit_ne (by decide) ?_ | refine g_seq ?_ | refine g_region ?_ | refine g_block ?_ | refine g_ret ?_ | refine g_return_n ?_ | refine g_exit ?_ | refine g_skip ?_)
  refine o_assign ?_
  first | refine g_endt ?_ | refine g_end ?_
  repeat (first | refine g_endt ?_ | refine g_end ?_ | refine g_then ?_ | refine g_in_normal ?_ | refine g_then_ret ?_ | refine g_in_ret ?_ | refine g_then_exit ?_ | refine g_in_exit rfl ?_ | refine g_in_exit_ne (by decide) ?_ | refine g_seq ?_ | refine g_region ?_ | refine g_block ?_ | refine g_ret ?_ | refine g_return_n ?_ | refine g_exit ?_ | refine g_skip ?_)
  refine g_loop (σ := {t : Nat × List PrefD // t.1 ≤ n / 2 ∧ t.2.Perm l}) (S := fun t => [(0, .slice A n c), (2, .int .i64 draw), (7, .int .i64 (k : Int)), (8, .slice S2 n c2), (9, .int .i64 (t.1.1 : Int))]) (H := fun t => [oP S2 c2 t.1.2, psl encP 16 A l, psl encP 16 A (l.take k)]) (μ := fun t => n / 2 - t.1.1) (s0 := ⟨(0, ms0), Nat.zero_le _, hpm⟩)
    (Sat.mem ⟨rfl, rfl, rfl, (by show Value.slice S2 ((l.drop k).length + (l.take k).length) c2 = Value.slice S2 n c2; rw [hln]), rfl, trivial⟩) (t := (inferInstance : Take _ [oP S2 c2 ms0, psl encP 16 A l, psl encP 16 A (l.take k)] _)) ?_
  rintro ⟨⟨i, ms⟩, hi, hp⟩ ρ'
  dsimp only at hi hp ⊢
  have hml : ms.length = n := by rw [hp.length_eq, hl]
  repeat (first | refine g_endt ?_ | refine g_end ?_ | refine g_then ?_ | refine g_in_normal ?_ | refine g_then_ret ?_ | refine g_in_ret ?_ | refine g_then_exit ?_ | refine g_in_exit rfl ?_ | refine g_in_exit_ne (by decide) ?_ | refine g_seq ?_ | refine g_region ?_ | refine g_block ?_ | refine g_ret ?_ | refine g_return_n ?_ | refine g_exit ?_ | refine g_skip ?_)
  refine o_move ?_
  refine o_move ?_
  refine o_len rfl rfl ?_
  refine o_quo (c := ((n / 2 : Nat) : Int)) rfl rfl (by omega) (Int.ofNat_tdiv n 2).symm (by omega) (by omega) ?_
  refine o_lss rfl rfl ?_
  first | refine g_endt ?_ | refine g_end ?_
  by_cases hin : i < n / 2
  · first | refine g_seq (g_cond_t rfl (by simp only [decide_eq_true_eq]; omega) ?_) | refine g_cond_t rfl (by simp only [decide_eq_true_eq]; omega) ?_
    obtain ⟨a, ha⟩ : ∃ a, ms[i]? = some a := ⟨_, List.getElem?_eq_getElem (by omega)⟩
    obtain ⟨b, hb⟩ : ∃ b, ms[n - 1 - i]? = some b := ⟨_, List.getElem?_eq_getElem (by omega)⟩
    have hpn := (swap_perm ha hb).trans hp
    repeat (first | refine g_endt ?_ | refine g_end ?_ | refine g_then ?_ | refine g_in_normal ?_ | refine g_then_ret ?_ | refine g_in_ret ?_ | refine g_then_exit ?_ | refine g_in_exit rfl ?_ | refine g_in_exit_ne (by decide) ?_ | refine g_seq ?_ | refine g_region ?_ | refine g_block ?_ | refine g_ret ?_ | refine g_return_n ?_ | refine g_exit ?_ | refine g_skip ?_)
    refine Pu.g_draw [21,23] [0,1,2,3,4,5,6,7,8,9,10,11,12,13,16,17] [0,1,2,3,4,5,6,7,8,9,10,11,12,13,14,15,16,17,18,19,20,21,22,23] [oP S2 c2 ms] mixed rfl ?_
    refine Pu.ob_p rfl rfl ⟨_, fun X Q h => o_move (g_end (h _ _ ⟨rfl, rfl⟩)), ?_⟩
    refine Pu.ob_p rfl rfl ⟨_, fun X Q h => o_move (g_end (h _ _ ⟨rfl, rfl⟩)), ?_⟩
    refine Pu.ob_p rfl rfl ⟨_, fun X Q h => o_move (g_end (h _ _ ⟨rfl, rfl⟩)), ?_⟩
    refine Pu.ob_p rfl rfl ⟨_, fun X Q h => o_move (g_end (h _ _ ⟨rfl, rfl⟩)), ?_⟩
    refine Pu.ob_p rfl rfl ⟨_, fun X Q h => o_len rfl rfl (g_end (h _ _ ⟨rfl, rfl⟩)), ?_⟩
    refine Pu.ob_p rfl rfl ⟨_, fun X Q h => o_sub (c := ((n - 1 : Nat) : Int)) rfl rfl (by omega) (by omega) (by omega) (g_end (h _ _ ⟨rfl, rfl⟩)), ?_⟩
    refine Pu.ob_p rfl rfl ⟨_, fun X Q h => o_move (g_end (h _ _ ⟨rfl, rfl⟩)), ?_⟩
    refine Pu.ob_p rfl rfl ⟨_, fun X Q h => o_sub (c := ((n - 1 - i : Nat) : Int)) rfl rfl (by omega) (by omega) (by omega) (g_end (h _ _ ⟨rfl, rfl⟩)), ?_⟩
    refine Pu.ob_p rfl rfl ⟨_, fun X Q h => o_move (g_end (h _ _ ⟨rfl, rfl⟩)), ?_⟩
    refine Pu.ob_p rfl rfl ⟨_, fun X Q h => o_move (g_end (h _ _ ⟨rfl, rfl⟩)), ?_⟩
    refine Pu.ob_p rfl rfl ⟨_, fun X Q h => o_len rfl rfl (g_end (h _ _ ⟨rfl, rfl⟩)), ?_⟩
    refine Pu.ob_p rfl rfl ⟨_, fun X Q h => o_sub (c := ((n - 1 : Nat) : Int)) rfl rfl (by omega) (by omega) (by omega) (g_end (h _ _ ⟨rfl, rfl⟩)), ?_⟩
    refine Pu.ob_p rfl rfl ⟨_, fun X Q h => o_move (g_end (h _ _ ⟨rfl, rfl⟩)), ?_⟩
    refine Pu.ob_p rfl rfl ⟨_, fun X Q h => o_sub (c := ((n - 1 - i : Nat) : Int)) rfl rfl (by omega) (by omega) (by omega) (g_end (h _ _ ⟨rfl, rfl⟩)), ?_⟩
    refine Pu.ob_q rfl rfl rfl ⟨_, fun X Q h => o_indexR (ys := ms) (i := n - 1 - i) rfl rfl rfl (by omega) hml rfl (g_end (h _ _ ⟨rfl, rfl⟩)), ?_⟩
    refine Pu.ob_q rfl rfl rfl ⟨_, fun X Q h => o_loadE (ys := ms) rfl rfl hb (g_end (h _ _ ⟨rfl, rfl⟩)), ?_⟩
    refine Pu.ob_p rfl rfl ⟨_, fun X Q h => o_move (g_end (h _ _ ⟨rfl, rfl⟩)), ?_⟩
    refine Pu.ob_p rfl rfl ⟨_, fun X Q h => o_move (g_end (h _ _ ⟨rfl, rfl⟩)), ?_⟩
    refine Pu.ob_q rfl rfl rfl ⟨_, fun X Q h => o_indexR (ys := ms) (i := i) rfl rfl rfl (by omega) hml rfl (g_end (h _ _ ⟨rfl, rfl⟩)), ?_⟩
    refine Pu.ob_q rfl rfl rfl ⟨_, fun X Q h => o_loadE (ys := ms) rfl rfl ha (g_end (h _ _ ⟨rfl, rfl⟩)), ?_⟩
    refine Pu.ob_q rfl rfl rfl ⟨_, fun X Q h => o_indexR (ys := ms) (i := i) rfl rfl rfl (by omega) hml rfl (g_end (h _ _ ⟨rfl, rfl⟩)), ?_⟩
    refine Pu.ob_s [oP S2 c2 (ms.set i b)] rfl rfl rfl fun Qz hz => o_storeE (e := 35) (c := c2) (enc := encP) (xs := ms) (v := .agg (encP b).toArray) (z := b) (i := i) rfl rfl rfl rfl (by omega) ?_
    refine g_end (hz _ _ ⟨_, ob_fin, ?_⟩)
    clear hz Qz
    refine Pu.ob_q rfl rfl rfl ⟨_, fun X Q h => o_indexR (ys := ms.set i b) (i := n - 1 - i) rfl rfl rfl (by rw [List.length_set]; omega) (by rw [List.length_set]; exact hml) rfl (g_end (h _ _ ⟨rfl, rfl⟩)), ?_⟩
    refine Pu.ob_s [oP S2 c2 ((ms.set i b).set (n - 1 - i) a)] rfl rfl rfl fun Qz hz => o_storeE (e := 35) (c := c2) (enc := encP) (xs := ms.set i b) (v := .agg (encP a).toArray) (z := a) (i := n - 1 - i) rfl rfl rfl rfl (by rw [List.length_set]; omega) ?_
    refine g_end (hz _ _ ⟨_, ob_fin, ?_⟩)
    clear hz Qz
    refine Pu.ob_nil ?_
    repeat (first | refine g_endt ?_ | refine g_end ?_ | refine g_then ?_ | refine g_in_normal ?_ | refine g_then_ret ?_ | refine g_in_ret ?_ | refine g_then_exit ?_ | refine g_in_exit rfl ?_ | refine g_in_exit_ne (by decide) ?_ | refine g_seq ?_ | refine g_region ?_ | refine g_block ?_ | refine g_ret ?_ | refine g_return_n ?_ | refine g_exit ?_ | refine g_skip ?_)
    repeat (first | refine g_endt ?_ | refine g_end ?_ | refine g_then ?_ | refine g_in_normal ?_ | refine g_then_ret ?_ | refine g_in_ret ?_ | refine g_then_exit ?_ | refine g_in_exit rfl ?_ | refine g_in_exit_ne (by decide) ?_ | refine g_seq ?_ | refine g_region ?_ | refine g_block ?_ | refine g_ret ?_ | refine g_return_n ?_ | refine g_exit ?_ | refine g_skip ?_)
    refine o_move ?_
    refine o_add (c := ((i + 1 : Nat) : Int)) rfl rfl (by omega) (by omega) (by omega) ?_
    refine o_assign ?_
    first | refine g_endt ?_ | refine g_end ?_
    repeat (first | refine g_endt ?_ | refine g_end ?_ | refine g_then ?_ | refine g_in_normal ?_ | refine g_then_ret ?_ | refine g_in_ret ?_ | refine g_then_exit ?_ | refine g_in_exit rfl ?_ | refine g_in_exit_ne (by decide) ?_ | refine g_seq ?_ | refine g_region ?_ | refine g_block ?_ | refine g_ret ?_ | refine g_return_n ?_ | refine g_exit ?_ | refine g_skip ?_)
    exact g_meets ⟨(i + 1, (ms.set i b).set (n - 1 - i) a), hin, hpn⟩ (by show n / 2 - (i + 1) < n / 2 - i; omega) (Sat.mem ⟨rfl, rfl, rfl, rfl, rfl, trivial⟩)
  first | refine g_seq (g_cond_f rfl (by simp only [decide_eq_false_iff_not]; omega) ?_) | refine g_cond_f rfl (by simp only [decide_eq_false_iff_not]; omega) ?_
  refine G.bring [psl encP 16 A (l.take k)] ?_
  repeat (first | refine g_endt ?_ | refine g_end ?_ | refine g_then ?_ | refine g_in_normal ?_ | refine g_then_ret ?_ | refine g_in_ret ?_ | refine g_then_exit ?_ | refine g_in_exit rfl ?_ | refine g_in_exit_ne (by decide) ?_ | refine g_seq ?_ | refine g_region ?_ | refine g_block ?_ | refine g_ret ?_ | refine g_return_n ?_ | refine g_exit ?_ | refine g_skip ?_)
  refine o_move ?_
  refine o_move ?_
  refine o_move ?_
  refine o_uptoP (k := k) rfl rfl rfl (by omega) ?_
  refine o_append (xs := ms) (ys := l.take k) (by rw [hml]; rfl) rfl rfl rfl htk (fun _ => .inr trivial) (by simp [maxLen]; omega) (by simp; omega) fun S3 c3 => ?_
  refine o_assign ?_
  first | refine g_endt ?_ | refine g_end ?_
  obtain ⟨us0, hus⟩ : ∃ us0, ms ++ l.take k = us0 := ⟨_, rfl⟩
  have hul0 : us0.length = n + k := by rw [← hus, List.length_append]; omega
  have hln2 : ms.length + (l.take k).length = n + k := by omega
  rw [hus]
  repeat (first | refine g_endt ?_ | refine g_end ?_ | refine g_then ?_ | refine g_in_normal ?_ | refine g_then_ret ?_ | refine g_in_ret ?_ | refine g_then_exit ?_ | refine g_in_exit rfl ?_ | refine g_in_exit_ne (by decide) ?_ | refine g_seq ?_ | refine g_region ?_ | refine g_block ?_ | refine g_ret ?_ | refine g_return_n ?_ | refine g_exit ?_ | refine g_skip ?_)
  refine o_assign ?_
  first | refine g_endt ?_ | refine g_end ?_
  repeat (first | refine g_endt ?_ | refine g_end ?_ | refine g_then ?_ | refine g_in_normal ?_ | refine g_then_ret ?_ | refine g_in_ret ?_ | refine g_then_exit ?_ | refine g_in_exit rfl ?_ | refine g_in_exit_ne (by decide) ?_ | refine g_seq ?_ | refine g_region ?_ | refine g_block ?_ | refine g_ret ?_ | refine g_return_n ?_ | refine g_exit ?_ | refine g_skip ?_)
  refine g_loop (σ := {t : Nat × List PrefD // t.1 ≤ n + k ∧ t.2.map core = us0.map core}) (S := fun t => [(0, .slice A n c), (2, .int .i64 draw), (8, .slice S3 (n + k) c3), (10, .int .i64 (t.1.1 : Int))]) (H := fun t => [oP S3 c3 t.1.2, psl encP 16 A l]) (μ := fun t => n + k - t.1.1) (s0 := ⟨(0, us0), Nat.zero_le _, rfl⟩)
    (Sat.mem ⟨rfl, rfl, (by show Value.slice S3 (ms.length + (l.take k).length) c3 = Value.slice S3 (n + k) c3; rw [hln2]), rfl, trivial⟩) (t := (inferInstance : Take _ [oP S3 c3 us0, psl encP 16 A l] _)) ?_
  rintro ⟨⟨j, us⟩, hj, hcu⟩ ρ2
  dsimp only at hj hcu ⊢
  have hul : us.length = n + k := by rw [← hul0, ← List.length_map (f := core), hcu, List.length_map]
  repeat (first | refine g_endt ?_ | refine g_end ?_ | refine g_then ?_ | refine g_in_normal ?_ | refine g_then_ret ?_ | refine g_in_ret ?_ | refine g_then_exit ?_ | refine g_in_exit rfl ?_ | refine g_in_exit_ne (by decide) ?_ | refine g_seq ?_ | refine g_region ?_ | refine g_block ?_ | refine g_ret ?_ | refine g_return_n ?_ | refine g_exit ?_ | refine g_skip ?_)
  refine o_move ?_
  refine o_move ?_
  refine o_len rfl rfl ?_
  refine o_lss rfl rfl ?_
  first | refine g_endt ?_ | refine g_end ?_
  by_cases hjn : j < n + k
  · first | refine g_seq (g_cond_t rfl (by first | rfl | (simp; done) | (simp; omega) | (simp; assumption)) ?_) | refine g_cond_t rfl (by first | rfl | (simp; done) | (simp; omega) | (simp; assumption)) ?_
    obtain ⟨p, hpj⟩ : ∃ p, us[j]? = some p := ⟨_, List.getElem?_eq_getElem (by omega)⟩
    have hcn : ((us.set j { p with by_ := (j : Int) }).set j { p with by_ := (j : Int), level := -(j : Int) }).map core = us0.map core := (set_core (p2 := { p with by_ := (j : Int), level := -(j : Int) }) hpj rfl).trans hcu
    have hp1 : (us.set j { p with by_ := (j : Int) })[j]? = some { p with by_ := (j : Int) } := by rw [List.getElem?_set_self (by omega)]
    have hs1 : (us.set j { p with by_ := (j : Int) }).length = n + k := by rw [List.length_set]; exact hul
    repeat (first | refine g_endt ?_ | refine g_end ?_ | refine g_then ?_ | refine g_in_normal ?_ | refine g_then_ret ?_ | refine g_in_ret ?_ | refine g_then_exit ?_ | refine g_in_exit rfl ?_ | refine g_in_exit_ne (by decide) ?_ | refine g_seq ?_ | refine g_region ?_ | refine g_block ?_ | refine g_ret ?_ | refine g_return_n ?_ | refine g_exit ?_ | refine g_skip ?_)
    refine o_move ?_
    refine o_move ?_
    refine o_move ?_
    refine o_move ?_
    refine o_move ?_
    refine o_move ?_
    refine o_neg (c := -(j : Int)) rfl rfl (by omega) (by omega) ?_
    refine o_indexR (ys := us) (i := j) rfl rfl rfl (by omega) hul rfl ?_
    refine o_fieldR (ys := us) rfl (by omega) ?_
    refine o_storeF (e := 35) (c := c3) (enc := encP) (v := .int .i64 (j : Int)) (xs := us) (off := 15) (i := j) (z0 := p) (z := { p with by_ := (j : Int) }) rfl rfl hpj rfl rfl (Nat.le_of_ble_eq_true rfl) ?_
    refine o_indexR (ys := us.set j { p with by_ := (j : Int) }) (i := j) rfl rfl rfl (by omega) hs1 rfl ?_
    refine o_fieldR (ys := us.set j { p with by_ := (j : Int) }) rfl (by omega) ?_
    refine o_storeF (e := 35) (c := c3) (enc := encP) (v := .int .i64 (-(j : Int))) (xs := us.set j { p with by_ := (j : Int) }) (off := 14) (i := j) (z0 := { p with by_ := (j : Int) }) (z := { p with by_ := (j : Int), level := -(j : Int) }) rfl rfl hp1 rfl rfl (Nat.le_of_ble_eq_true rfl) ?_
    first | refine g_endt ?_ | refine g_end ?_
    repeat (first | refine g_endt ?_ | refine g_end ?_ | refine g_then ?_ | refine g_in_normal ?_ | refine g_then_ret ?_ | refine g_in_ret ?_ | refine g_then_exit ?_ | refine g_in_exit rfl ?_ | refine g_in_exit_ne (by decide) ?_ | refine g_seq ?_ | refine g_region ?_ | refine g_block ?_ | refine g_ret ?_ | refine g_return_n ?_ | refine g_exit ?_ | refine g_skip ?_)
    repeat (first | refine g_endt ?_ | refine g_end ?_ | refine g_then ?_ | refine g_in_normal ?_ | refine g_then_ret ?_ | refine g_in_ret ?_ | refine g_then_exit ?_ | refine g_in_exit rfl ?_ | refine g_in_exit_ne (by decide) ?_ | refine g_seq ?_ | refine g_region ?_ | refine g_block ?_ | refine g_ret ?_ | refine g_return_n ?_ | refine g_exit ?_ | refine g_skip ?_)
    refine o_move ?_
    refine o_add (c := ((j + 1 : Nat) : Int)) rfl rfl (by omega) (by omega) (by omega) ?_
    refine o_assign ?_
    first | refine g_endt ?_ | refine g_end ?_
    repeat (first | refine g_endt ?_ | refine g_end ?_ | refine g_then ?_ | refine g_in_normal ?_ | refine g_then_ret ?_ | refine g_in_ret ?_ | refine g_then_exit ?_ | refine g_in_exit rfl ?_ | refine g_in_exit_ne (by decide) ?_ | refine g_seq ?_ | refine g_region ?_ | refine g_block ?_ | refine g_ret ?_ | refine g_return_n ?_ | refine g_exit ?_ | refine g_skip ?_)
    exact g_meets ⟨(j + 1, _), hjn, hcn⟩ (by show n + k - (j + 1) < n + k - j; omega) (Sat.mem ⟨rfl, rfl, rfl, rfl, trivial⟩)
  first | refine g_seq (g_cond_f rfl (by simp only [decide_eq_false_iff_not]; omega) ?_) | refine g_cond_f rfl (by simp only [decide_eq_false_iff_not]; omega) ?_
  refine G.bring [oP S3 c3 us] ?_
  refine G.frz ?_
  have hdec : decP us draw = decP l draw := orders_core hp (by rw [hcu, ← hus]) draw
  have hi : (decP l draw).items.length ≤ 1000000 := decP_items l draw (by omega)
  obtain ⟨x, hx⟩ : ∃ x, decP l draw = x := ⟨_, rfl⟩
  rw [hx] at hdec hi
  repeat (first | refine g_endt ?_ | refine g_end ?_ | refine g_then ?_ | refine g_in_normal ?_ | refine g_then_ret ?_ | refine g_in_ret ?_ | refine g_then_exit ?_ | refine g_in_exit rfl ?_ | refine g_in_exit_ne (by decide) ?_ | refine g_seq ?_ | refine g_region ?_ | refine g_block ?_ | refine g_ret ?_ | refine g_return_n ?_ | refine g_exit ?_ | refine g_skip ?_)
  refine o_move ?_
  refine o_call (OfP_spec A n c) rfl rfl ?_
  rintro _ _ ⟨b1, rfl, rfl⟩
  refine o_move ?_
  refine o_call (DecOfK_spec b1 A n c l hl (by omega) draw hx) rfl rfl ?_
  rintro _ _ ⟨T1, e1, rfl, rfl⟩
  refine o_move ?_
  refine o_call (OfP_spec S3 (n + k) c3) rfl rfl ?_
  rintro _ _ ⟨b2, rfl, rfl⟩
  refine o_move ?_
  refine o_call (DecOfK_spec b2 S3 (n + k) c3 us hul (by omega) draw hdec) rfl rfl ?_
  rintro _ _ ⟨T2, e2, rfl, rfl⟩
  refine o_callp (Choice_spec x T1 T2 e1 e2 hi) rfl rfl ?_
  rintro _ _ ⟨rfl, rfl⟩
  refine o_move ?_
  refine o_want rfl rfl rfl rfl rfl (o_call (wakes18_spec) rfl rfl ?_)
  rintro _ _ ⟨rfl, rfl⟩
  first | refine o_pick_t rfl rfl ?_ | refine o_pick_f rfl rfl ?_
  refine o_assign ?_
  first | refine g_endt ?_ | refine g_end ?_
  repeat (first | refine g_endt ?_ | refine g_end ?_ | refine g_then ?_ | refine g_in_normal ?_ | refine g_then_ret ?_ | refine g_in_ret ?_ | refine g_then_exit ?_ | refine g_in_exit rfl ?_ | refine g_in_exit_ne (by decide) ?_ | refine g_seq ?_ | refine g_region ?_ | refine g_block ?_ | refine g_ret ?_ | refine g_return_n ?_ | refine g_exit ?_ | refine g_skip ?_)
  exact ret1 (K := []) rfl (resT rfl) ⟨rfl, rfl⟩
end Go.Proofs.Ytljiooihhfndjaa
/- The statements' own numbers. -/
namespace Go.Proofs.Ytljiooihhfndjaa
open Go Go.Sl
attribute [local irreducible] Code.wpIn roundPost bodyPostM runL Ret Meets Begin

def symN (n : Int) : SymD := ⟨2, ByteArray.empty, n⟩
theorem N_spec (n : Int) : Ctr Try.prog 16 [.int .i64 n] [] (fun v M => v = (symN n).val ∧ M = []) := by
  refine spec_of Try.func16 rfl Try.ntmps16 rfl fun w0 F => ?_
  -- ponder/ponderlaw09.N
  repeat (first | refine g_endt ?_ | refine g_end ?_ | refine g_then ?_ | refine g_in_normal ?_ | refine g_then_ret ?_ | refine g_in_ret ?_ | refine g_then_exit ?_ | refine g_in_exit rfl ?_ | refine g_in_exit_ne (by decide) ?_ | refine g_seq ?_ | refine g_region ?_ | refine g_block ?_ | refine g_ret ?_ | refine g_return_n ?_ | refine g_exit ?_ | refine g_skip ?_)
  refine o_alloc fun r => ?_
  first | refine g_endt ?_ | refine g_end ?_
  repeat (first | refine g_endt ?_ | refine g_end ?_ | refine g_then ?_ | refine g_in_normal ?_ | refine g_then_ret ?_ | refine g_in_ret ?_ | refine g_then_exit ?_ | refine g_in_exit rfl ?_ | refine g_in_exit_ne (by decide) ?_ | refine g_seq ?_ | refine g_region ?_ | refine g_block ?_ | refine g_ret ?_ | refine g_return_n ?_ | refine g_exit ?_ | refine g_skip ?_)
  refine o_move ?_
  refine o_build ((symN n).val) (fun w => by kernel_rfl) ?_
  refine o_store (v := (symN n).val) rfl rfl rfl rfl rfl ?_
  first | refine g_endt ?_ | refine g_end ?_
  refine G.norm r (symN n).val.cells rfl ?_
  repeat (first | refine g_endt ?_ | refine g_end ?_ | refine g_then ?_ | refine g_in_normal ?_ | refine g_then_ret ?_ | refine g_in_ret ?_ | refine g_then_exit ?_ | refine g_in_exit rfl ?_ | refine g_in_exit_ne (by decide) ?_ | refine g_seq ?_ | refine g_region ?_ | refine g_block ?_ | refine g_ret ?_ | refine g_return_n ?_ | refine g_exit ?_ | refine g_skip ?_)
  exact ret1 (K := []) rfl (resCN (v := (symN n).val) rfl rfl rfl) ⟨rfl, rfl⟩
end Go.Proofs.Ytljiooihhfndjaa
/- What the rows of preferences that the laws build come to. Plain law, no program in sight. -/
namespace Go.Proofs.Ytljiooihhfndjaa
open Go Go.Sl

/-! ### Values that are all alike -/
def alD (i : Nat) : List PrefD := [prefV 1 (symN ((i : Int) * (i : Int))) SymD.zero, prefV 7 (symN ((i : Int) * (i : Int))) SymD.zero]
def rowD (n : Nat) : List PrefD := (List.range n).flatMap alD
theorem rowD_succ (n : Nat) : rowD (n + 1) = rowD n ++ alD n := by simp [rowD, List.range_succ, List.flatMap_append]
theorem rowD_len (n : Nat) : (rowD n).length = 2 * n := by
  induction n with
  | zero => rfl
  | succ n ih => rw [rowD_succ, List.length_append, ih]; simp [alD]; omega
def sqs (n : Nat) : List SymD := (List.range n).map fun (i : Nat) => symN ((i : Int) * (i : Int))
theorem nine {n : Nat} (h2 : 2 ≤ n) (h9 : n ≤ 9) : n = 2 ∨ n = 3 ∨ n = 4 ∨ n = 5 ∨ n = 6 ∨ n = 7 ∨ n = 8 ∨ n = 9 := by omega
theorem drawD {n : Nat} (h2 : 2 ≤ n) (h9 : n ≤ 9) (draw : Int) : decP (rowD n) draw = ⟨0, ((sqs n)[(draw % (n : Int)).toNat]?).getD SymD.zero, [], true⟩ := by
  rcases nine h2 h9 with rfl | rfl | rfl | rfl | rfl | rfl | rfl | rfl <;> kernel_rfl
theorem drawD' {n k : Nat} (h2 : 2 ≤ n) (h9 : n ≤ 9) {draw : Int} (hk : (draw % (n : Int)).toNat = k) : decP (rowD n) draw = ⟨0, symN ((k : Int) * (k : Int)), [], true⟩ := by
  have hkn : k < n := by have := Int.emod_lt_of_pos draw (show (0 : Int) < (n : Int) by omega); have := Int.emod_nonneg draw (show (n : Int) ≠ 0 by omega); omega
  rw [drawD h2 h9, hk, sqs, List.getElem?_map, List.getElem?_range hkn]
  rfl
theorem drawE {n : Nat} (h2 : 2 ≤ n) (h9 : n ≤ 9) (draw : Int) : (decP ((rowD n).drop 2) draw).kind = 0 ∧ (decP ((rowD n).drop 2) draw).drew = decide (2 < n) := by
  rcases nine h2 h9 with rfl | rfl | rfl | rfl | rfl | rfl | rfl | rfl <;> exact ⟨by kernel_rfl, by kernel_rfl⟩
/-! ### One that is best, or all others worst -/
def symO (i : Nat) : SymD := symI ⟨#[79]⟩ ((i : Int) + 1)
def beD (best : Bool) (k i : Nat) : List PrefD := prefV 1 (symO i) SymD.zero :: ((if (best && decide (i = k)) = true then [prefV 5 (symO i) SymD.zero] else []) ++ (if (!best && !decide (i = k)) = true then [prefV 6 (symO i) SymD.zero] else []))
def rowB (best : Bool) (k n : Nat) : List PrefD := (List.range n).flatMap (beD best k)
theorem rowB_succ (best : Bool) (k n : Nat) : rowB best k (n + 1) = rowB best k n ++ beD best k n := by simp [rowB, List.range_succ, List.flatMap_append]
theorem rowB_len (best : Bool) (k n : Nat) : (rowB best k n).length ≤ 3 * n := by
  induction n with
  | zero => exact Nat.le_refl _
  | succ n ih =>
    rw [rowB_succ, List.length_append]
    have : (beD best k n).length ≤ 3 := by
      unfold beD
      split <;> split <;> simp
    omega
def symsB : List SymD → List SymD → Bool
  | [], [] => true
  | a :: l, b :: m => a.beq b && symsB l m
  | _, _ => false
theorem symsB_eq : ∀ {l m : List SymD}, symsB l m = true → l = m
  | [], [], _ => rfl
  | [], _ :: _, h => by cases h
  | _ :: _, [], h => by cases h
  | a :: l, b :: m, h => by
    simp only [symsB, Bool.and_eq_true] at h
    rw [(SymD.beq_iff a b).1 h.1, symsB_eq h.2]
def chB (x y : ChD) : Bool := (decide (x.kind = y.kind) && x.value.beq y.value) && (symsB x.items y.items && (x.drew == y.drew))
theorem chB_eq {x y : ChD} (h : chB x y = true) : x = y := by
  obtain ⟨k, v, l, d⟩ := x
  obtain ⟨k', v', l', d'⟩ := y
  simp only [chB, Bool.and_eq_true, decide_eq_true_eq, beq_iff_eq] at h
  obtain ⟨⟨h1, h2⟩, h3, h4⟩ := h
  have h2 := (SymD.beq_iff v v').1 h2
  have h3 := symsB_eq h3
  subst h1 h2 h3 h4
  rfl
theorem nine_mem {n : Nat} (h2 : 2 ≤ n) (h9 : n ≤ 9) : n ∈ [2, 3, 4, 5, 6, 7, 8, 9] := by rcases nine h2 h9 with rfl | rfl | rfl | rfl | rfl | rfl | rfl | rfl <;> simp
theorem bestAll : ([2, 3, 4, 5, 6, 7, 8, 9].all fun n => (List.range n).all fun k => [true, false].all fun b => chB (decP (rowB b k n) 0) ⟨0, symO k, [], false⟩) = true := by kernel_rfl
theorem bestB {n k : Nat} (h2 : 2 ≤ n) (h9 : n ≤ 9) (hk : k < n) (best : Bool) : decP (rowB best k n) 0 = ⟨0, symO k, [], false⟩ :=
  chB_eq (List.all_eq_true.1 (List.all_eq_true.1 (List.all_eq_true.1 bestAll n (nine_mem h2 h9)) k (List.mem_range.2 hk)) best (by cases best <;> simp))
/-! ### A row, or a ring -/
def roD (n : Nat) (worse ring : Bool) (i : Nat) : List PrefD :=
  prefV 1 (symO i) SymD.zero :: (if (decide (i + 1 = n) && !ring) = true then [] else
    [if worse = true then prefV 9 (if i + 1 = n then symO 0 else symO (i + 1)) (symO i) else prefV 8 (symO i) (if i + 1 = n then symO 0 else symO (i + 1))])
def rowR (n : Nat) (worse ring : Bool) (i : Nat) : List PrefD := (List.range i).flatMap (roD n worse ring)
def allO (i : Nat) : List SymD := (List.range i).map symO
theorem rowR_succ (n : Nat) (worse ring : Bool) (i : Nat) : rowR n worse ring (i + 1) = rowR n worse ring i ++ roD n worse ring i := by simp [rowR, List.range_succ, List.flatMap_append]
theorem allO_succ (i : Nat) : allO (i + 1) = allO i ++ [symO i] := by simp [allO, List.range_succ]
theorem allO_len (i : Nat) : (allO i).length = i := by simp [allO]
theorem rowR_len (n : Nat) (worse ring : Bool) (i : Nat) : (rowR n worse ring i).length ≤ 2 * i := by
  induction i with
  | zero => exact Nat.le_refl _
  | succ i ih =>
    rw [rowR_succ, List.length_append]
    have : (roD n worse ring i).length ≤ 2 := by
      unfold roD
      split <;> simp
    omega
theorem ringAll : ([2, 3, 4, 5, 6, 7, 8, 9].all fun n => [true, false].all fun w => chB (decP (rowR n w true n) 3) ⟨2, SymD.zero, allO n, false⟩ && chB (decP (rowR n w false n) 3) ⟨0, symO 0, [], false⟩) = true := by kernel_rfl
theorem ringR {n : Nat} (h2 : 2 ≤ n) (h9 : n ≤ 9) (worse : Bool) : decP (rowR n worse true n) 3 = ⟨2, SymD.zero, allO n, false⟩ ∧ decP (rowR n worse false n) 3 = ⟨0, symO 0, [], false⟩ := by
  have := List.all_eq_true.1 (List.all_eq_true.1 ringAll n (nine_mem h2 h9)) worse (by cases worse <;> simp)
  rw [Bool.and_eq_true] at this
  exact ⟨chB_eq this.1, chB_eq this.2⟩
end Go.Proofs.Ytljiooihhfndjaa
/- The laws on values that are alike, on one that is best, on a row of values, walked. -/
namespace Go.Proofs.Ytljiooihhfndjaa
open Go Go.Sl
attribute [local irreducible] Exit.then Exit.inBlock Code.wpIn roundPost bodyPostM runL Ret Meets Begin

-- the walks
abbrev oS (S : Option Addr) (c : Nat) (l : List SymD) : SProp := osl 26 encS 3 S c l
theorem eight {n0 : Int} {m : Nat} (h : 2 + (n0 % ((8 : Nat) : Int)).toNat = m) : 2 ≤ m ∧ m ≤ 9 := by
  have := Int.emod_lt_of_pos n0 (show (0 : Int) < ((8 : Nat) : Int) by omega)
  have := Int.emod_nonneg n0 (show ((8 : Nat) : Int) ≠ 0 by omega)
  omega
set_option maxHeartbeats 2000000 in
theorem PickDraws_spec (n0 draw : Int) : Ctr Try.prog 5 [.int .i64 n0, .int .i64 draw] [] (fun v M => v = .bool true ∧ M = []) := by
  refine spec_of Try.func5 rfl Try.ntmps5 rfl fun w0 F => ?_
  -- hide
  -- ponder/ponderlaw18.PickDraws
  obtain ⟨m, hm⟩ : ∃ m : Nat, 2 + (n0 % ((8 : Nat) : Int)).toNat = m := ⟨_, rfl⟩
  obtain ⟨hm2, hm9⟩ := eight hm
  repeat (first | refine g_endt ?_ | refine g_end ?_ | refine g_then ?_ | refine g_in_normal ?_ | refine g_then_ret ?_ | refine g_in_ret ?_ | refine g_then_exit ?_ | refine g_in_exit rfl ?_ | refine g_in_exit_ne (by decide) ?_ | refine g_seq ?_ | refine g_region ?_ | refine g_block ?_ | refine g_ret ?_ | refine g_return_n ?_ | refine g_exit ?_ | refine g_skip ?_)
  refine g_hideR fun Q_ hQ_ => ?_
  refine o_assign ?_
  refine g_end (G.imp (hQ_ .normal _) ?_)
  clear hQ_ Q_
  try refine g_then ?_
  repeat (first | refine g_endt ?_ | refine g_end ?_ | refine g_then ?_ | refine g_in_normal ?_ | refine g_then_ret ?_ | refine g_in_ret ?_ | refine g_then_exit ?_ | refine g_in_exit rfl ?_ | refine g_in_exit_ne (by decide) ?_ | refine g_seq ?_ | refine g_region ?_ | refine g_block ?_ | refine g_ret ?_ | refine g_return_n ?_ | refine g_exit ?_ | refine g_skip ?_)
  refine g_hideR fun Q_ hQ_ => ?_
  refine o_move ?_
  refine o_call (Within_spec n0 8 (by omega) (by omega)) rfl rfl ?_
  rintro _ _ ⟨rfl, rfl⟩
  refine o_add (c := (m : Int)) rfl rfl (by omega) (by omega) (by omega) ?_
  refine o_assign ?_
  refine g_end (G.imp (hQ_ .normal _) ?_)
  clear hQ_ Q_
  try refine g_then ?_
  repeat (first | refine g_endt ?_ | refine g_end ?_ | refine g_then ?_ | refine g_in_normal ?_ | refine g_then_ret ?_ | refine g_in_ret ?_ | refine g_then_exit ?_ | refine g_in_exit rfl ?_ | refine g_in_exit_ne (by decide) ?_ | refine g_seq ?_ | refine g_region ?_ | refine g_block ?_ | refine g_ret ?_ | refine g_return_n ?_ | refine g_exit ?_ | refine g_skip ?_)
  refine g_hideR fun Q_ hQ_ => ?_
  refine o_assign ?_
  refine g_end (G.imp (hQ_ .normal _) ?_)
  clear hQ_ Q_
  try refine g_then ?_
  repeat (first | refine g_endt ?_ | refine g_end ?_ | refine g_then ?_ | refine g_in_normal ?_ | refine g_then_ret ?_ | refine g_in_ret ?_ | refine g_then_exit ?_ | refine g_in_exit rfl ?_ | refine g_in_exit_ne (by decide) ?_ | refine g_seq ?_ | refine g_region ?_ | refine g_block ?_ | refine g_ret ?_ | refine g_return_n ?_ | refine g_exit ?_ | refine g_skip ?_)
  refine g_hideR fun Q_ hQ_ => ?_
  refine o_assign ?_
  refine g_end (G.imp (hQ_ .normal _) ?_)
  clear hQ_ Q_
  try refine g_then ?_
  refine G.nil_slice 35 encP 16 ?_
  repeat (first | refine g_endt ?_ | refine g_end ?_ | refine g_then ?_ | refine g_in_normal ?_ | refine g_then_ret ?_ | refine g_in_ret ?_ | refine g_then_exit ?_ | refine g_in_exit rfl ?_ | refine g_in_exit_ne (by decide) ?_ | refine g_seq ?_ | refine g_region ?_ | refine g_block ?_ | refine g_ret ?_ | refine g_return_n ?_ | refine g_exit ?_ | refine g_skip ?_)
  refine g_loop (σ := {t : Nat × Option Addr × Nat // t.1 ≤ m}) (S := fun t => [(0, .int .i64 (m : Int)), (1, .int .i64 draw), (5, .slice t.1.2.1 (rowD t.1.1).length t.1.2.2), (6, .int .i64 (t.1.1 : Int))]) (H := fun t => [oP t.1.2.1 t.1.2.2 (rowD t.1.1)]) (μ := fun t => m - t.1.1) (s0 := ⟨(0, none, 0), Nat.zero_le _⟩) (Sat.mem ⟨rfl, rfl, rfl, rfl, trivial⟩)
    (t := (inferInstance : Take _ [oP none 0 []] _)) ?_
  rintro ⟨⟨i, U, u⟩, hi⟩ ρ'
  dsimp only at hi ⊢
  have hrl := rowD_len i
  repeat (first | refine g_endt ?_ | refine g_end ?_ | refine g_then ?_ | refine g_in_normal ?_ | refine g_then_ret ?_ | refine g_in_ret ?_ | refine g_then_exit ?_ | refine g_in_exit rfl ?_ | refine g_in_exit_ne (by decide) ?_ | refine g_seq ?_ | refine g_region ?_ | refine g_block ?_ | refine g_ret ?_ | refine g_return_n ?_ | refine g_exit ?_ | refine g_skip ?_)
  refine g_hideR fun Q_ hQ_ => ?_
  refine o_move ?_
  refine o_move ?_
  refine o_lss rfl rfl ?_
  refine g_end (G.imp (hQ_ .normal _) ?_)
  clear hQ_ Q_
  try refine g_then ?_
  by_cases hin : i < m
  · first | refine g_seq (g_cond_t rfl (by first | rfl | (simp; done) | (simp; omega) | (simp; assumption)) ?_) | refine g_cond_t rfl (by first | rfl | (simp; done) | (simp; omega) | (simp; assumption)) ?_
    have hsn := rowD_succ i
    have hsq : ((i : Int) * (i : Int)) ≤ 81 ∧ 0 ≤ (i : Int) * (i : Int) := by
      have h1 : (i : Int) * (i : Int) = ((i * i : Nat) : Int) := by simp
      have h2 : i * i ≤ 9 * 9 := Nat.mul_le_mul (by omega) (by omega)
      omega
    generalize rowD i = us at hsn hrl ⊢
    repeat (first | refine g_endt ?_ | refine g_end ?_ | refine g_then ?_ | refine g_in_normal ?_ | refine g_then_ret ?_ | refine g_in_ret ?_ | refine g_then_exit ?_ | refine g_in_exit rfl ?_ | refine g_in_exit_ne (by decide) ?_ | refine g_seq ?_ | refine g_region ?_ | refine g_block ?_ | refine g_ret ?_ | refine g_return_n ?_ | refine g_exit ?_ | refine g_skip ?_)
    refine g_hideR fun Q_ hQ_ => ?_
    refine o_move ?_
    refine o_move ?_
    refine o_mul (c := (i : Int) * (i : Int)) rfl rfl rfl (by omega) (by omega) ?_
    refine o_call (N_spec ((i : Int) * (i : Int))) rfl rfl ?_
    rintro _ _ ⟨rfl, rfl⟩
    refine o_alloc fun q => ?_
    refine o_store (v := (symN ((i : Int) * (i : Int))).val) rfl rfl rfl rfl rfl ?_
    refine g_end (G.imp (hQ_ .normal _) ?_)
    clear hQ_ Q_
    try refine g_then ?_
    refine G.norm q (symN ((i : Int) * (i : Int))).val.cells rfl ?_
    repeat (first | refine g_endt ?_ | refine g_end ?_ | refine g_then ?_ | refine g_in_normal ?_ | refine g_then_ret ?_ | refine g_in_ret ?_ | refine g_then_exit ?_ | refine g_in_exit rfl ?_ | refine g_in_exit_ne (by decide) ?_ | refine g_seq ?_ | refine g_region ?_ | refine g_block ?_ | refine g_ret ?_ | refine g_return_n ?_ | refine g_exit ?_ | refine g_skip ?_)
    refine g_hideR fun Q_ hQ_ => ?_
    refine o_move ?_
    refine o_loadN (v := (symN ((i : Int) * (i : Int))).val) rfl rfl rfl ?_
    refine o_build ((prefV 1 (symN ((i : Int) * (i : Int))) SymD.zero).val) (fun w => by kernel_rfl) ?_
    refine o_loadN (v := (symN ((i : Int) * (i : Int))).val) rfl rfl rfl ?_
    refine o_build ((prefV 7 (symN ((i : Int) * (i : Int))) SymD.zero).val) (fun w => by kernel_rfl) ?_
    refine o_litP (e := 35) encP (alD i) ((prefV 1 (symN ((i : Int) * (i : Int))) SymD.zero).val.cells ++ (prefV 7 (symN ((i : Int) * (i : Int))) SymD.zero).val.cells) (fun w => by kernel_rfl) (by simp [encP, alD]) (by simp [maxLen, alD]) fun s => ?_
    refine o_append (xs := us) (ys := alD i) rfl rfl rfl rfl rfl (fun _ => .inr trivial) (by simp [maxLen, alD]; omega) (by simp [alD]; omega) fun U2 u2 => ?_
    refine o_assign ?_
    refine g_end (G.imp (hQ_ .normal _) ?_)
    clear hQ_ Q_
    try refine g_then ?_
    rw [← hsn]
    repeat (first | refine g_endt ?_ | refine g_end ?_ | refine g_then ?_ | refine g_in_normal ?_ | refine g_then_ret ?_ | refine g_in_ret ?_ | refine g_then_exit ?_ | refine g_in_exit rfl ?_ | refine g_in_exit_ne (by decide) ?_ | refine g_seq ?_ | refine g_region ?_ | refine g_block ?_ | refine g_ret ?_ | refine g_return_n ?_ | refine g_exit ?_ | refine g_skip ?_)
    refine g_hideR fun Q_ hQ_ => ?_
    refine o_move ?_
    refine o_add (c := ((i + 1 : Nat) : Int)) rfl rfl (by omega) (by omega) (by omega) ?_
    refine o_assign ?_
    refine g_end (G.imp (hQ_ .normal _) ?_)
    clear hQ_ Q_
    try refine g_then ?_
    repeat (first | refine g_endt ?_ | refine g_end ?_ | refine g_then ?_ | refine g_in_normal ?_ | refine g_then_ret ?_ | refine g_in_ret ?_ | refine g_then_exit ?_ | refine g_in_exit rfl ?_ | refine g_in_exit_ne (by decide) ?_ | refine g_seq ?_ | refine g_region ?_ | refine g_block ?_ | refine g_ret ?_ | refine g_return_n ?_ | refine g_exit ?_ | refine g_skip ?_)
    exact g_meets ⟨(i + 1, U2, u2), hin⟩ (by show m - (i + 1) < m - i; omega) (Sat.mem ⟨rfl, rfl, (show Value.slice U2 (us.length + (alD i).length) u2 = Value.slice U2 (rowD (i + 1)).length u2 by rw [hsn, List.length_append]), rfl, trivial⟩)
  first | refine g_seq (g_cond_f rfl (by simp; omega) ?_) | refine g_cond_f rfl (by simp; omega) ?_
  obtain rfl : i = m := by omega
  refine G.bring [oP U u (rowD i)] ?_
  refine G.frzc fun hroom => ?_
  obtain ⟨k, hk⟩ : ∃ k : Nat, (draw % (i : Int)).toNat = k := ⟨_, rfl⟩
  have hkn : k < i := by have := Int.emod_lt_of_pos draw (show (0 : Int) < (i : Int) by omega); have := Int.emod_nonneg draw (show (i : Int) ≠ 0 by omega); omega
  have hdec := drawD' hm2 hm9 hk
  obtain ⟨x, hx⟩ : ∃ x, decP ((rowD i).drop 2) draw = x := ⟨_, rfl⟩
  have hdec2 := drawE hm2 hm9 draw
  rw [hx] at hdec2
  have hkk : (k : Int) * (k : Int) ≤ 81 ∧ 0 ≤ (k : Int) * (k : Int) := by
    have h1 : (k : Int) * (k : Int) = ((k * k : Nat) : Int) := by simp
    have h2 : k * k ≤ 9 * 9 := Nat.mul_le_mul (by omega) (by omega)
    omega
  have hdl : ((rowD i).drop 2).length = (rowD i).length - 2 := by simp
  generalize rowD i = us at hrl hroom hdec hx hdl ⊢
  repeat (first | refine g_endt ?_ | refine g_end ?_ | refine g_then ?_ | refine g_in_normal ?_ | refine g_then_ret ?_ | refine g_in_ret ?_ | refine g_then_exit ?_ | refine g_in_exit rfl ?_ | refine g_in_exit_ne (by decide) ?_ | refine g_seq ?_ | refine g_region ?_ | refine g_block ?_ | refine g_ret ?_ | refine g_return_n ?_ | refine g_exit ?_ | refine g_skip ?_)
  refine g_hideR fun Q_ hQ_ => ?_
  refine o_move ?_
  refine o_call (OfP_spec U us.length u) rfl rfl ?_
  rintro _ _ ⟨b1, rfl, rfl⟩
  refine o_move ?_
  refine o_call (DecOfK_spec b1 U us.length u us rfl (by omega) draw hdec) rfl rfl ?_
  rintro _ _ ⟨S1, e1, rfl, rfl⟩
  refine o_alloc fun r => ?_
  refine o_store (v := chV 0 (symN ((k : Int) * (k : Int))) S1 0 e1 true) rfl rfl rfl rfl rfl ?_
  refine g_end (G.imp (hQ_ .normal _) ?_)
  clear hQ_ Q_
  try refine g_then ?_
  refine G.norm r (chV 0 (symN ((k : Int) * (k : Int))) S1 0 e1 true).cells rfl ?_
  repeat (first | refine g_endt ?_ | refine g_end ?_ | refine g_then ?_ | refine g_in_normal ?_ | refine g_then_ret ?_ | refine g_in_ret ?_ | refine g_then_exit ?_ | refine g_in_exit rfl ?_ | refine g_in_exit_ne (by decide) ?_ | refine g_seq ?_ | refine g_region ?_ | refine g_block ?_ | refine g_ret ?_ | refine g_return_n ?_ | refine g_exit ?_ | refine g_skip ?_)
  refine g_hideR fun Q_ hQ_ => ?_
  refine o_move ?_
  refine o_move ?_
  refine o_call (Within_spec draw i (by omega) (by omega)) rfl rfl ?_
  rintro _ _ ⟨rfl, rfl⟩
  refine o_assign ?_
  refine g_end (G.imp (hQ_ .normal _) ?_)
  clear hQ_ Q_
  try refine g_then ?_
  rw [hk]
  repeat (first | refine g_endt ?_ | refine g_end ?_ | refine g_then ?_ | refine g_in_normal ?_ | refine g_then_ret ?_ | refine g_in_ret ?_ | refine g_then_exit ?_ | refine g_in_exit rfl ?_ | refine g_in_exit_ne (by decide) ?_ | refine g_seq ?_ | refine g_region ?_ | refine g_block ?_ | refine g_ret ?_ | refine g_return_n ?_ | refine g_exit ?_ | refine g_skip ?_)
  refine g_hide fun Q_ hQ_ => ?_
  refine g_draw [] [0,1,2,3,4,5,6,7,8,9,10,11,12,13,14,15,16] [cCh r (chV 0 (symN ((k : Int) * (k : Int))) S1 0 e1 true)] mixed rfl ?_
  first | refine ob_q rfl rfl ⟨_, fun X Q h => o_field rfl (g_end (h _ _ ⟨rfl, rfl⟩)), ?_⟩ | refine ob_q rfl rfl ⟨_, fun X Q h => o_fieldR rfl (by omega) (g_end (h _ _ ⟨rfl, rfl⟩)), ?_⟩
  refine ob_q rfl rfl ⟨_, fun X Q h => o_load1 (v := .int .i64 0) rfl rfl (g_end (h _ _ ⟨rfl, rfl⟩)), ?_⟩
  refine ob_q rfl rfl ⟨_, fun X Q h => o_neq rfl rfl (g_end (h _ _ ⟨rfl, rfl⟩)), ?_⟩
  refine ob_q rfl rfl ⟨_, fun X Q h => o_move (g_end (h _ _ ⟨rfl, rfl⟩)), ?_⟩
  first | refine ob_q rfl rfl ⟨_, fun X Q h => o_want rfl rfl rfl rfl rfl <| o_field rfl (g_end (h _ _ ⟨rfl, rfl⟩)), ?_⟩ | refine ob_q rfl rfl ⟨_, fun X Q h => o_want rfl rfl rfl rfl rfl <| o_fieldR rfl (by omega) (g_end (h _ _ ⟨rfl, rfl⟩)), ?_⟩ | refine ob_q rfl rfl ⟨_, fun X Q h => o_unwanted rfl rfl rfl rfl rfl (g_end (h _ _ ⟨rfl, rfl⟩)), ?_⟩ | refine ob_q rfl rfl ⟨_, fun X Q h => o_undef rfl rfl rfl (g_end (h _ _ ⟨rfl, rfl⟩)), ?_⟩
  refine ob_q rfl rfl ⟨_, fun X Q h => o_want rfl rfl rfl rfl rfl <| o_load1 (v := .bool true) rfl rfl (g_end (h _ _ ⟨rfl, rfl⟩)), ?_⟩
  first | refine ob_q rfl rfl ⟨_, fun X Q h => o_want rfl rfl rfl rfl rfl <| o_not rfl (g_end (h _ _ ⟨rfl, rfl⟩)), ?_⟩ | refine ob_q rfl rfl ⟨_, fun X Q h => o_unwanted rfl rfl rfl rfl rfl (g_end (h _ _ ⟨rfl, rfl⟩)), ?_⟩ | refine ob_q rfl rfl ⟨_, fun X Q h => o_undef rfl rfl rfl (g_end (h _ _ ⟨rfl, rfl⟩)), ?_⟩
  first | refine ob_q rfl rfl ⟨_, fun X Q h => o_pick_t rfl rfl (g_end (h _ _ ⟨rfl, rfl⟩)), ?_⟩ | refine ob_q rfl rfl ⟨_, fun X Q h => o_pick_f rfl rfl (g_end (h _ _ ⟨rfl, rfl⟩)), ?_⟩
  refine ob_q rfl rfl ⟨_, fun X Q h => o_move (g_end (h _ _ ⟨rfl, rfl⟩)), ?_⟩
  first | refine ob_q rfl rfl ⟨_, fun X Q h => o_want rfl rfl rfl rfl rfl <| o_field rfl (g_end (h _ _ ⟨rfl, rfl⟩)), ?_⟩ | refine ob_q rfl rfl ⟨_, fun X Q h => o_want rfl rfl rfl rfl rfl <| o_fieldR rfl (by omega) (g_end (h _ _ ⟨rfl, rfl⟩)), ?_⟩ | refine ob_q rfl rfl ⟨_, fun X Q h => o_unwanted rfl rfl rfl rfl rfl (g_end (h _ _ ⟨rfl, rfl⟩)), ?_⟩ | refine ob_q rfl rfl ⟨_, fun X Q h => o_undef rfl rfl rfl (g_end (h _ _ ⟨rfl, rfl⟩)), ?_⟩
  refine ob_q rfl rfl ⟨_, fun X Q h => o_want rfl rfl rfl rfl rfl <| o_loadN (v := (symN ((k : Int) * (k : Int))).val) rfl rfl rfl (g_end (h _ _ ⟨rfl, rfl⟩)), ?_⟩
  first | refine ob_q rfl rfl ⟨_, fun X Q h => o_want rfl rfl rfl rfl rfl <| o_move (g_end (h _ _ ⟨rfl, rfl⟩)), ?_⟩ | refine ob_q rfl rfl ⟨_, fun X Q h => o_unwanted rfl rfl rfl rfl rfl (g_end (h _ _ ⟨rfl, rfl⟩)), ?_⟩ | refine ob_q rfl rfl ⟨_, fun X Q h => o_undef rfl rfl rfl (g_end (h _ _ ⟨rfl, rfl⟩)), ?_⟩
  first | refine ob_q rfl rfl ⟨_, fun X Q h => o_want rfl rfl rfl rfl rfl <| o_move (g_end (h _ _ ⟨rfl, rfl⟩)), ?_⟩ | refine ob_q rfl rfl ⟨_, fun X Q h => o_unwanted rfl rfl rfl rfl rfl (g_end (h _ _ ⟨rfl, rfl⟩)), ?_⟩ | refine ob_q rfl rfl ⟨_, fun X Q h => o_undef rfl rfl rfl (g_end (h _ _ ⟨rfl, rfl⟩)), ?_⟩
  refine ob_q rfl rfl ⟨_, fun X Q h => o_want rfl rfl rfl rfl rfl <| o_mul (c := (k : Int) * (k : Int)) rfl rfl rfl (by omega) (by omega) (g_end (h _ _ ⟨rfl, rfl⟩)), ?_⟩
  refine ob_q rfl rfl ⟨_, fun X Q h => o_want rfl rfl rfl rfl rfl <| o_call (N_spec ((k : Int) * (k : Int))) rfl rfl <| by rintro _ _ ⟨rfl, rfl⟩; exact (g_end (h _ _ ⟨rfl, rfl⟩)), ?_⟩
  refine ob_q rfl rfl ⟨_, fun X Q h => o_want rfl rfl rfl rfl rfl <| o_neqty rfl rfl (eq_symb (beq_rfl' _)) (g_end (h _ _ ⟨rfl, rfl⟩)), ?_⟩
  first | refine ob_q rfl rfl ⟨_, fun X Q h => o_pick_t rfl rfl (g_end (h _ _ ⟨rfl, rfl⟩)), ?_⟩ | refine ob_q rfl rfl ⟨_, fun X Q h => o_pick_f rfl rfl (g_end (h _ _ ⟨rfl, rfl⟩)), ?_⟩
  refine ob_nil ?_
  refine G.imp (hQ_ .normal _) ?_
  clear hQ_ Q_
  try refine g_then ?_
  first | refine g_seq (g_cond_f rfl (by first | rfl | (simp; done) | (simp; omega) | (simp; assumption)) ?_) | refine g_cond_f rfl (by first | rfl | (simp; done) | (simp; omega) | (simp; assumption)) ?_
  refine G.dropped (enc := encP) (sz := 16) (S := U) (xs := us) u 2 hroom ?_
  repeat (first | refine g_endt ?_ | refine g_end ?_ | refine g_then ?_ | refine g_in_normal ?_ | refine g_then_ret ?_ | refine g_in_ret ?_ | refine g_then_exit ?_ | refine g_in_exit rfl ?_ | refine g_in_exit_ne (by decide) ?_ | refine g_seq ?_ | refine g_region ?_ | refine g_block ?_ | refine g_ret ?_ | refine g_return_n ?_ | refine g_exit ?_ | refine g_skip ?_)
  refine g_hideR fun Q_ hQ_ => ?_
  refine o_move ?_
  refine o_fromP (k := 2) rfl rfl rfl (by omega) ?_
  refine o_call (OfP_spec (offA U u 2 16) (us.length - 2) (u - 2)) rfl rfl ?_
  rintro _ _ ⟨b2, rfl, rfl⟩
  refine o_move ?_
  refine o_call (DecOfK_spec b2 (offA U u 2 16) (us.length - 2) (u - 2) (us.drop 2) hdl (by omega) draw hx) rfl rfl ?_
  rintro _ _ ⟨S2, e2, rfl, rfl⟩
  refine o_alloc fun r2 => ?_
  refine o_store (v := chD x S2 e2) rfl rfl rfl rfl rfl ?_
  refine g_end (G.imp (hQ_ .normal _) ?_)
  clear hQ_ Q_
  try refine g_then ?_
  refine G.norm r2 (chD x S2 e2).cells rfl ?_
  obtain ⟨kd, xv, xi, dr⟩ := x
  obtain ⟨rfl, rfl⟩ := hdec2
  repeat (first | refine g_endt ?_ | refine g_end ?_ | refine g_then ?_ | refine g_in_normal ?_ | refine g_then_ret ?_ | refine g_in_ret ?_ | refine g_then_exit ?_ | refine g_in_exit rfl ?_ | refine g_in_exit_ne (by decide) ?_ | refine g_seq ?_ | refine g_region ?_ | refine g_block ?_ | refine g_ret ?_ | refine g_return_n ?_ | refine g_exit ?_ | refine g_skip ?_)
  refine g_hideR fun Q_ hQ_ => ?_
  first | refine o_field rfl ?_ | refine o_fieldR rfl (by omega) ?_
  refine o_load1 (v := .int .i64 0) rfl rfl ?_
  refine o_eql rfl rfl ?_
  refine o_move ?_
  first | (refine o_want rfl rfl rfl rfl rfl ?_; (first | refine o_field rfl ?_ | refine o_fieldR rfl (by omega) ?_)) | refine o_unwanted rfl rfl rfl rfl rfl ?_ | refine o_undef rfl rfl rfl ?_
  refine o_want rfl rfl rfl rfl rfl (o_load1 (v := .bool (decide (2 < i))) rfl rfl ?_)
  first | (refine o_want rfl rfl rfl rfl rfl ?_; refine o_move ?_) | refine o_unwanted rfl rfl rfl rfl rfl ?_ | refine o_undef rfl rfl rfl ?_
  first | (refine o_want rfl rfl rfl rfl rfl ?_; refine o_gtr rfl rfl ?_) | refine o_unwanted rfl rfl rfl rfl rfl ?_ | refine o_undef rfl rfl rfl ?_
  refine o_want rfl rfl rfl rfl rfl (o_eqty rfl rfl (eq_bool _ _) ?_)
  first | refine o_pick_t rfl rfl ?_ | refine o_pick_f rfl rfl ?_
  rw [show ((decide (2 < i)) == decide ((i : Int) > 2)) = true from by simp only [beq_iff_eq, decide_eq_decide]; omega]
  refine o_move ?_
  refine o_want rfl rfl rfl rfl rfl (o_call (wakes18_spec) rfl rfl ?_)
  rintro _ _ ⟨rfl, rfl⟩
  first | refine o_pick_t rfl rfl ?_ | refine o_pick_f rfl rfl ?_
  refine o_assign ?_
  refine g_end (G.imp (hQ_ .normal _) ?_)
  clear hQ_ Q_
  try refine g_then ?_
  repeat (first | refine g_endt ?_ | refine g_end ?_ | refine g_then ?_ | refine g_in_normal ?_ | refine g_then_ret ?_ | refine g_in_ret ?_ | refine g_then_exit ?_ | refine g_in_exit rfl ?_ | refine g_in_exit_ne (by decide) ?_ | refine g_seq ?_ | refine g_region ?_ | refine g_block ?_ | refine g_ret ?_ | refine g_return_n ?_ | refine g_exit ?_ | refine g_skip ?_)
  exact ret1 (K := []) rfl (resT rfl) ⟨rfl, rfl⟩
set_option maxHeartbeats 2000000 in
theorem PickBest_spec (n0 k0 : Int) (best : Bool) : Ctr Try.prog 6 [.int .i64 n0, .int .i64 k0, .bool best] [] (fun v M => v = .bool true ∧ M = []) := by
  refine spec_of Try.func6 rfl Try.ntmps6 rfl fun w0 F => ?_
  -- hide
  -- ponder/ponderlaw18.PickBest
  obtain ⟨m, hm⟩ : ∃ m : Nat, 2 + (n0 % ((8 : Nat) : Int)).toNat = m := ⟨_, rfl⟩
  obtain ⟨hm2, hm9⟩ := eight hm
  repeat (first | refine g_endt ?_ | refine g_end ?_ | refine g_then ?_ | refine g_in_normal ?_ | refine g_then_ret ?_ | refine g_in_ret ?_ | refine g_then_exit ?_ | refine g_in_exit rfl ?_ | refine g_in_exit_ne (by decide) ?_ | refine g_seq ?_ | refine g_region ?_ | refine g_block ?_ | refine g_ret ?_ | refine g_return_n ?_ | refine g_exit ?_ | refine g_skip ?_)
  refine g_hideR fun Q_ hQ_ => ?_
  refine o_assign ?_
  refine g_end (G.imp (hQ_ .normal _) ?_)
  clear hQ_ Q_
  try refine g_then ?_
  repeat (first | refine g_endt ?_ | refine g_end ?_ | refine g_then ?_ | refine g_in_normal ?_ | refine g_then_ret ?_ | refine g_in_ret ?_ | refine g_then_exit ?_ | refine g_in_exit rfl ?_ | refine g_in_exit_ne (by decide) ?_ | refine g_seq ?_ | refine g_region ?_ | refine g_block ?_ | refine g_ret ?_ | refine g_return_n ?_ | refine g_exit ?_ | refine g_skip ?_)
  refine g_hideR fun Q_ hQ_ => ?_
  refine o_move ?_
  refine o_call (Within_spec n0 8 (by omega) (by omega)) rfl rfl ?_
  rintro _ _ ⟨rfl, rfl⟩
  refine o_add (c := (m : Int)) rfl rfl (by omega) (by omega) (by omega) ?_
  refine o_assign ?_
  refine g_end (G.imp (hQ_ .normal _) ?_)
  clear hQ_ Q_
  try refine g_then ?_
  obtain ⟨k, hk⟩ : ∃ k : Nat, (k0 % (m : Int)).toNat = k := ⟨_, rfl⟩
  have hkm : k < m := by have := Int.emod_lt_of_pos k0 (show (0 : Int) < (m : Int) by omega); have := Int.emod_nonneg k0 (show (m : Int) ≠ 0 by omega); omega
  repeat (first | refine g_endt ?_ | refine g_end ?_ | refine g_then ?_ | refine g_in_normal ?_ | refine g_then_ret ?_ | refine g_in_ret ?_ | refine g_then_exit ?_ | refine g_in_exit rfl ?_ | refine g_in_exit_ne (by decide) ?_ | refine g_seq ?_ | refine g_region ?_ | refine g_block ?_ | refine g_ret ?_ | refine g_return_n ?_ | refine g_exit ?_ | refine g_skip ?_)
  refine g_hideR fun Q_ hQ_ => ?_
  refine o_move ?_
  refine o_move ?_
  refine o_call (Within_spec k0 m (by omega) (by omega)) rfl rfl ?_
  rintro _ _ ⟨rfl, rfl⟩
  refine o_assign ?_
  refine g_end (G.imp (hQ_ .normal _) ?_)
  clear hQ_ Q_
  try refine g_then ?_
  rw [hk]
  repeat (first | refine g_endt ?_ | refine g_end ?_ | refine g_then ?_ | refine g_in_normal ?_ | refine g_then_ret ?_ | refine g_in_ret ?_ | refine g_then_exit ?_ | refine g_in_exit rfl ?_ | refine g_in_exit_ne (by decide) ?_ | refine g_seq ?_ | refine g_region ?_ | refine g_block ?_ | refine g_ret ?_ | refine g_return_n ?_ | refine g_exit ?_ | refine g_skip ?_)
  refine g_hideR fun Q_ hQ_ => ?_
  refine o_assign ?_
  refine g_end (G.imp (hQ_ .normal _) ?_)
  clear hQ_ Q_
  try refine g_then ?_
  repeat (first | refine g_endt ?_ | refine g_end ?_ | refine g_then ?_ | refine g_in_normal ?_ | refine g_then_ret ?_ | refine g_in_ret ?_ | refine g_then_exit ?_ | refine g_in_exit rfl ?_ | refine g_in_exit_ne (by decide) ?_ | refine g_seq ?_ | refine g_region ?_ | refine g_block ?_ | refine g_ret ?_ | refine g_return_n ?_ | refine g_exit ?_ | refine g_skip ?_)
  refine g_hideR fun Q_ hQ_ => ?_
  refine o_assign ?_
  refine g_end (G.imp (hQ_ .normal _) ?_)
  clear hQ_ Q_
  try refine g_then ?_
  refine G.nil_slice 35 encP 16 ?_
  repeat (first | refine g_endt ?_ | refine g_end ?_ | refine g_then ?_ | refine g_in_normal ?_ | refine g_then_ret ?_ | refine g_in_ret ?_ | refine g_then_exit ?_ | refine g_in_exit rfl ?_ | refine g_in_exit_ne (by decide) ?_ | refine g_seq ?_ | refine g_region ?_ | refine g_block ?_ | refine g_ret ?_ | refine g_return_n ?_ | refine g_exit ?_ | refine g_skip ?_)
  refine g_loop (σ := {t : Nat × Option Addr × Nat // t.1 ≤ m}) (S := fun t => [(0, .int .i64 (m : Int)), (1, .int .i64 (k : Int)), (2, .bool best), (7, .slice t.1.2.1 (rowB best k t.1.1).length t.1.2.2), (8, .int .i64 (t.1.1 : Int))]) (H := fun t => [oP t.1.2.1 t.1.2.2 (rowB best k t.1.1)]) (μ := fun t => m - t.1.1) (s0 := ⟨(0, none, 0), Nat.zero_le _⟩) (Sat.mem ⟨rfl, rfl, rfl, rfl, rfl, trivial⟩)
    (t := (inferInstance : Take _ [oP none 0 []] _)) ?_
  rintro ⟨⟨i, U, u⟩, hi⟩ ρ'
  dsimp only at hi ⊢
  have hrl := rowB_len best k i
  repeat (first | refine g_endt ?_ | refine g_end ?_ | refine g_then ?_ | refine g_in_normal ?_ | refine g_then_ret ?_ | refine g_in_ret ?_ | refine g_then_exit ?_ | refine g_in_exit rfl ?_ | refine g_in_exit_ne (by decide) ?_ | refine g_seq ?_ | refine g_region ?_ | refine g_block ?_ | refine g_ret ?_ | refine g_return_n ?_ | refine g_exit ?_ | refine g_skip ?_)
  refine g_hideR fun Q_ hQ_ => ?_
  refine o_move ?_
  refine o_move ?_
  refine o_lss rfl rfl ?_
  refine g_end (G.imp (hQ_ .normal _) ?_)
  clear hQ_ Q_
  try refine g_then ?_
  by_cases hin : i < m
  · first | refine g_seq (g_cond_t rfl (by first | rfl | (simp; done) | (simp; omega) | (simp; assumption)) ?_) | refine g_cond_t rfl (by first | rfl | (simp; done) | (simp; omega) | (simp; assumption)) ?_
    have hsn := rowB_succ best k i
    unfold beD at hsn
    generalize rowB best k i = us at hsn hrl ⊢
    repeat (first | refine g_endt ?_ | refine g_end ?_ | refine g_then ?_ | refine g_in_normal ?_ | refine g_then_ret ?_ | refine g_in_ret ?_ | refine g_then_exit ?_ | refine g_in_exit rfl ?_ | refine g_in_exit_ne (by decide) ?_ | refine g_seq ?_ | refine g_region ?_ | refine g_block ?_ | refine g_ret ?_ | refine g_return_n ?_ | refine g_exit ?_ | refine g_skip ?_)
    refine g_hideR fun Q_ hQ_ => ?_
    refine o_move ?_
    refine o_add (c := (i : Int) + 1) rfl rfl rfl (by omega) (by omega) ?_
    refine o_call (I_spec ⟨#[79]⟩ ((i : Int) + 1)) rfl rfl ?_
    rintro _ _ ⟨rfl, rfl⟩
    refine o_alloc fun q => ?_
    refine o_store (v := (symO i).val) rfl rfl rfl rfl rfl ?_
    refine g_end (G.imp (hQ_ .normal _) ?_)
    clear hQ_ Q_
    try refine g_then ?_
    refine G.norm q (symO i).val.cells rfl ?_
    repeat (first | refine g_endt ?_ | refine g_end ?_ | refine g_then ?_ | refine g_in_normal ?_ | refine g_then_ret ?_ | refine g_in_ret ?_ | refine g_then_exit ?_ | refine g_in_exit rfl ?_ | refine g_in_exit_ne (by decide) ?_ | refine g_seq ?_ | refine g_region ?_ | refine g_block ?_ | refine g_ret ?_ | refine g_return_n ?_ | refine g_exit ?_ | refine g_skip ?_)
    refine g_hideR fun Q_ hQ_ => ?_
    refine o_move ?_
    refine o_loadN (v := (symO i).val) rfl rfl rfl ?_
    refine o_build ((prefV 1 (symO i) SymD.zero).val) (fun w => by kernel_rfl) ?_
    refine o_litP (e := 35) encP [(prefV 1 (symO i) SymD.zero)] ((prefV 1 (symO i) SymD.zero)).val.cells (fun w => by kernel_rfl) (by simp [encP]) (by simp [maxLen]) fun _ => ?_
    refine o_append (xs := us) (ys := [(prefV 1 (symO i) SymD.zero)]) (by first | rfl | (simp only [List.length_map, List.length_take, List.length_append]; first | rfl | (congr 1; omega))) rfl rfl rfl rfl (fun _ => .inr trivial) (by simp [maxLen]; omega) (by simp; omega) fun U2 u2 => ?_
    refine o_assign ?_
    refine g_end (G.imp (hQ_ .normal _) ?_)
    clear hQ_ Q_
    try refine g_then ?_
    obtain ⟨us2, hus2⟩ : ∃ us2, us ++ [prefV 1 (symO i) SymD.zero] = us2 := ⟨_, rfl⟩
    have hul2 : us.length + 1 = us2.length := by rw [← hus2]; simp
    have hsn2 : rowB best k (i + 1) = us2 ++ ((if (best && decide (i = k)) = true then [prefV 5 (symO i) SymD.zero] else []) ++ (if (!best && !decide (i = k)) = true then [prefV 6 (symO i) SymD.zero] else [])) := by rw [hsn, ← hus2]; simp
    rw [hus2]
    have eik : ((i : Int) == (k : Int)) = decide (i = k) := by rw [Bool.eq_iff_iff]; simp; omega
    repeat (first | refine g_endt ?_ | refine g_end ?_ | refine g_then ?_ | refine g_in_normal ?_ | refine g_then_ret ?_ | refine g_in_ret ?_ | refine g_then_exit ?_ | refine g_in_exit rfl ?_ | refine g_in_exit_ne (by decide) ?_ | refine g_seq ?_ | refine g_block ?_ | refine g_ret ?_ | refine g_return_n ?_ | refine g_exit ?_ | refine g_skip ?_)
    refine g_cutk (σ := Unit) (ds' := []) (S := fun _ => [(0, .int .i64 (m : Int)), (1, .int .i64 (k : Int)), (2, .bool best), (7, .slice U2 us2.length u2), (8, .int .i64 (i : Int)), (9, .pointer (some ⟨q, 0, none⟩)), (35, .bool (best && decide (i = k)))]) (H := fun _ => [oP U2 u2 us2, cY q (symO i)]) (ok := fun _ => True) ?_ ?_
    · cases best with
      | true =>
        repeat (first | refine g_endt ?_ | refine g_end ?_ | refine g_then ?_ | refine g_in_normal ?_ | refine g_then_ret ?_ | refine g_in_ret ?_ | refine g_then_exit ?_ | refine g_in_exit rfl ?_ | refine g_in_exit_ne (by decide) ?_ | refine g_seq ?_ | refine g_region ?_ | refine g_block ?_ | refine g_ret ?_ | refine g_return_n ?_ | refine g_exit ?_ | refine g_skip ?_)
        refine g_hideR fun Q_ hQ_ => ?_
        refine o_move ?_
        refine o_move ?_
        first | (refine o_want rfl rfl rfl rfl rfl ?_; refine o_move ?_) | refine o_unwanted rfl rfl rfl rfl rfl ?_ | refine o_undef rfl rfl rfl ?_
        first | (refine o_want rfl rfl rfl rfl rfl ?_; refine o_move ?_) | refine o_unwanted rfl rfl rfl rfl rfl ?_ | refine o_undef rfl rfl rfl ?_
        first | (refine o_want rfl rfl rfl rfl rfl ?_; refine o_eql rfl rfl ?_) | refine o_unwanted rfl rfl rfl rfl rfl ?_ | refine o_undef rfl rfl rfl ?_
        first | refine o_pick_t rfl rfl ?_ | refine o_pick_f rfl rfl ?_
        refine g_end (G.imp (hQ_ .normal _) ?_)
        clear hQ_ Q_
        try refine g_then ?_
        rw [eik]
        exact g_meets () trivial (Sat.mem ⟨rfl, rfl, rfl, (show Value.slice U2 (us.length + 1) u2 = Value.slice U2 us2.length u2 by rw [hul2]), rfl, rfl, rfl, trivial⟩)
      | false =>
        repeat (first | refine g_endt ?_ | refine g_end ?_ | refine g_then ?_ | refine g_in_normal ?_ | refine g_then_ret ?_ | refine g_in_ret ?_ | refine g_then_exit ?_ | refine g_in_exit rfl ?_ | refine g_in_exit_ne (by decide) ?_ | refine g_seq ?_ | refine g_region ?_ | refine g_block ?_ | refine g_ret ?_ | refine g_return_n ?_ | refine g_exit ?_ | refine g_skip ?_)
        refine g_hideR fun Q_ hQ_ => ?_
        refine o_move ?_
        refine o_move ?_
        first | (refine o_want rfl rfl rfl rfl rfl ?_; refine o_move ?_) | refine o_unwanted rfl rfl rfl rfl rfl ?_ | refine o_undef rfl rfl rfl ?_
        first | (refine o_want rfl rfl rfl rfl rfl ?_; refine o_move ?_) | refine o_unwanted rfl rfl rfl rfl rfl ?_ | refine o_undef rfl rfl rfl ?_
        first | (refine o_want rfl rfl rfl rfl rfl ?_; refine o_eql rfl rfl ?_) | refine o_unwanted rfl rfl rfl rfl rfl ?_ | refine o_undef rfl rfl rfl ?_
        first | refine o_pick_t rfl rfl ?_ | refine o_pick_f rfl rfl ?_
        refine g_end (G.imp (hQ_ .normal _) ?_)
        clear hQ_ Q_
        try refine g_then ?_
        exact g_meets () trivial (Sat.mem ⟨rfl, rfl, rfl, (show Value.slice U2 (us.length + 1) u2 = Value.slice U2 us2.length u2 by rw [hul2]), rfl, rfl, rfl, trivial⟩)
    intro _ ρ2 _
    refine g_cutk (σ := Option Addr × Nat × List PrefD) (ds' := []) (S := fun t => [(0, .int .i64 (m : Int)), (1, .int .i64 (k : Int)), (2, .bool best), (7, .slice t.1 t.2.2.length t.2.1), (8, .int .i64 (i : Int)), (9, .pointer (some ⟨q, 0, none⟩))]) (H := fun t => [oP t.1 t.2.1 t.2.2, cY q (symO i)]) (ok := fun t => t.2.2 = us2 ++ (if (best && decide (i = k)) = true then [prefV 5 (symO i) SymD.zero] else [])) ?_ ?_
    · cases hb : (best && decide (i = k)) with
      | true =>
        first | refine g_seq (g_cond_t rfl (by first | rfl | (simp; done) | (simp; omega) | (simp; assumption)) ?_) | refine g_cond_t rfl (by first | rfl | (simp; done) | (simp; omega) | (simp; assumption)) ?_
        repeat (first | refine g_endt ?_ | refine g_end ?_ | refine g_then ?_ | refine g_in_normal ?_ | refine g_then_ret ?_ | refine g_in_ret ?_ | refine g_then_exit ?_ | refine g_in_exit rfl ?_ | refine g_in_exit_ne (by decide) ?_ | refine g_seq ?_ | refine g_region ?_ | refine g_block ?_ | refine g_ret ?_ | refine g_return_n ?_ | refine g_exit ?_ | refine g_skip ?_)
        refine g_hideR fun Q_ hQ_ => ?_
        refine o_move ?_
        refine o_loadN (v := (symO i).val) rfl rfl rfl ?_
        refine o_build ((prefV 5 (symO i) SymD.zero).val) (fun w => by kernel_rfl) ?_
        refine o_litP (e := 35) encP [(prefV 5 (symO i) SymD.zero)] ((prefV 5 (symO i) SymD.zero)).val.cells (fun w => by kernel_rfl) (by simp [encP]) (by simp [maxLen]) fun _ => ?_
        refine o_append (xs := us2) (ys := [(prefV 5 (symO i) SymD.zero)]) (by first | rfl | (simp only [List.length_map, List.length_take, List.length_append]; first | rfl | (congr 1; omega))) rfl rfl rfl rfl (fun _ => .inr trivial) (by simp [maxLen]; omega) (by simp; omega) fun U3 u3 => ?_
        refine o_assign ?_
        refine g_end (G.imp (hQ_ .normal _) ?_)
        clear hQ_ Q_
        try refine g_then ?_
        exact g_meets (U3, u3, us2 ++ [prefV 5 (symO i) SymD.zero]) rfl (Sat.mem ⟨rfl, rfl, rfl, (show Value.slice U3 (us2.length + 1) u3 = Value.slice U3 (us2 ++ [prefV 5 (symO i) SymD.zero]).length u3 by rw [List.length_append]; rfl), rfl, rfl, trivial⟩)
      | false =>
        first | refine g_seq (g_cond_f rfl (by first | rfl | (simp; done) | (simp; omega) | (simp; assumption)) ?_) | refine g_cond_f rfl (by first | rfl | (simp; done) | (simp; omega) | (simp; assumption)) ?_
        repeat (first | refine g_endt ?_ | refine g_end ?_ | refine g_then ?_ | refine g_in_normal ?_ | refine g_then_ret ?_ | refine g_in_ret ?_ | refine g_then_exit ?_ | refine g_in_exit rfl ?_ | refine g_in_exit_ne (by decide) ?_ | refine g_seq ?_ | refine g_region ?_ | refine g_block ?_ | refine g_ret ?_ | refine g_return_n ?_ | refine g_exit ?_ | refine g_skip ?_)
        exact g_meets (U2, u2, us2) (List.append_nil us2).symm (Sat.mem ⟨rfl, rfl, rfl, rfl, rfl, rfl, trivial⟩)
    rintro ⟨U3, u3, us3⟩ ρ3 hus3
    dsimp only at hus3 ⊢
    have hul3 : us3.length ≤ us2.length + 1 := by rw [hus3]; split <;> simp
    have hsn3 : rowB best k (i + 1) = us3 ++ (if (!best && !decide (i = k)) = true then [prefV 6 (symO i) SymD.zero] else []) := by rw [hsn2, hus3, List.append_assoc]
    have nik : (!((i : Int) == (k : Int))) = !decide (i = k) := by rw [eik]
    repeat (first | refine g_endt ?_ | refine g_end ?_ | refine g_then ?_ | refine g_in_normal ?_ | refine g_then_ret ?_ | refine g_in_ret ?_ | refine g_then_exit ?_ | refine g_in_exit rfl ?_ | refine g_in_exit_ne (by decide) ?_ | refine g_seq ?_ | refine g_block ?_ | refine g_ret ?_ | refine g_return_n ?_ | refine g_exit ?_ | refine g_skip ?_)
    refine g_cutk (σ := Unit) (ds' := []) (S := fun _ => [(0, .int .i64 (m : Int)), (1, .int .i64 (k : Int)), (2, .bool best), (7, .slice U3 us3.length u3), (8, .int .i64 (i : Int)), (9, .pointer (some ⟨q, 0, none⟩)), (47, .bool (!best && !decide (i = k)))]) (H := fun _ => [oP U3 u3 us3, cY q (symO i)]) (ok := fun _ => True) ?_ ?_
    · cases best with
      | true =>
        repeat (first | refine g_endt ?_ | refine g_end ?_ | refine g_then ?_ | refine g_in_normal ?_ | refine g_then_ret ?_ | refine g_in_ret ?_ | refine g_then_exit ?_ | refine g_in_exit rfl ?_ | refine g_in_exit_ne (by decide) ?_ | refine g_seq ?_ | refine g_region ?_ | refine g_block ?_ | refine g_ret ?_ | refine g_return_n ?_ | refine g_exit ?_ | refine g_skip ?_)
        refine g_hideR fun Q_ hQ_ => ?_
        refine o_move ?_
        refine o_not rfl ?_
        refine o_move ?_
        first | (refine o_want rfl rfl rfl rfl rfl ?_; refine o_move ?_) | refine o_unwanted rfl rfl rfl rfl rfl ?_ | refine o_undef rfl rfl rfl ?_
        first | (refine o_want rfl rfl rfl rfl rfl ?_; refine o_move ?_) | refine o_unwanted rfl rfl rfl rfl rfl ?_ | refine o_undef rfl rfl rfl ?_
        first | (refine o_want rfl rfl rfl rfl rfl ?_; refine o_neq rfl rfl ?_) | refine o_unwanted rfl rfl rfl rfl rfl ?_ | refine o_undef rfl rfl rfl ?_
        first | refine o_pick_t rfl rfl ?_ | refine o_pick_f rfl rfl ?_
        refine g_end (G.imp (hQ_ .normal _) ?_)
        clear hQ_ Q_
        try refine g_then ?_
        exact g_meets () trivial (Sat.mem ⟨rfl, rfl, rfl, rfl, rfl, rfl, rfl, trivial⟩)
      | false =>
        repeat (first | refine g_endt ?_ | refine g_end ?_ | refine g_then ?_ | refine g_in_normal ?_ | refine g_then_ret ?_ | refine g_in_ret ?_ | refine g_then_exit ?_ | refine g_in_exit rfl ?_ | refine g_in_exit_ne (by decide) ?_ | refine g_seq ?_ | refine g_region ?_ | refine g_block ?_ | refine g_ret ?_ | refine g_return_n ?_ | refine g_exit ?_ | refine g_skip ?_)
        refine g_hideR fun Q_ hQ_ => ?_
        refine o_move ?_
        refine o_not rfl ?_
        refine o_move ?_
        first | (refine o_want rfl rfl rfl rfl rfl ?_; refine o_move ?_) | refine o_unwanted rfl rfl rfl rfl rfl ?_ | refine o_undef rfl rfl rfl ?_
        first | (refine o_want rfl rfl rfl rfl rfl ?_; refine o_move ?_) | refine o_unwanted rfl rfl rfl rfl rfl ?_ | refine o_undef rfl rfl rfl ?_
        first | (refine o_want rfl rfl rfl rfl rfl ?_; refine o_neq rfl rfl ?_) | refine o_unwanted rfl rfl rfl rfl rfl ?_ | refine o_undef rfl rfl rfl ?_
        rw [show ((i : Int) != (k : Int)) = !decide (i = k) from nik]
        first | refine o_pick_t rfl rfl ?_ | refine o_pick_f rfl rfl ?_
        refine g_end (G.imp (hQ_ .normal _) ?_)
        clear hQ_ Q_
        try refine g_then ?_
        exact g_meets () trivial (Sat.mem ⟨rfl, rfl, rfl, rfl, rfl, rfl, rfl, trivial⟩)
    intro _ ρ4 _
    cases hb : (!best && !decide (i = k)) with
    | true =>
      rw [hb, if_pos rfl] at hsn3
      first | refine g_seq (g_cond_t rfl (by first | rfl | (simp; done) | (simp; omega) | (simp; assumption)) ?_) | refine g_cond_t rfl (by first | rfl | (simp; done) | (simp; omega) | (simp; assumption)) ?_
      repeat (first | refine g_endt ?_ | refine g_end ?_ | refine g_then ?_ | refine g_in_normal ?_ | refine g_then_ret ?_ | refine g_in_ret ?_ | refine g_then_exit ?_ | refine g_in_exit rfl ?_ | refine g_in_exit_ne (by decide) ?_ | refine g_seq ?_ | refine g_region ?_ | refine g_block ?_ | refine g_ret ?_ | refine g_return_n ?_ | refine g_exit ?_ | refine g_skip ?_)
      refine g_hideR fun Q_ hQ_ => ?_
      refine o_move ?_
      refine o_loadN (v := (symO i).val) rfl rfl rfl ?_
      refine o_build ((prefV 6 (symO i) SymD.zero).val) (fun w => by kernel_rfl) ?_
      refine o_litP (e := 35) encP [(prefV 6 (symO i) SymD.zero)] ((prefV 6 (symO i) SymD.zero)).val.cells (fun w => by kernel_rfl) (by simp [encP]) (by simp [maxLen]) fun _ => ?_
      refine o_append (xs := us3) (ys := [(prefV 6 (symO i) SymD.zero)]) (by first | rfl | (simp only [List.length_map, List.length_take, List.length_append]; first | rfl | (congr 1; omega))) rfl rfl rfl rfl (fun _ => .inr trivial) (by simp [maxLen]; omega) (by simp; omega) fun U4 u4 => ?_
      refine o_assign ?_
      refine g_end (G.imp (hQ_ .normal _) ?_)
      clear hQ_ Q_
      try refine g_then ?_
      rw [← hsn3]
      repeat (first | refine g_endt ?_ | refine g_end ?_ | refine g_then ?_ | refine g_in_normal ?_ | refine g_then_ret ?_ | refine g_in_ret ?_ | refine g_then_exit ?_ | refine g_in_exit rfl ?_ | refine g_in_exit_ne (by decide) ?_ | refine g_seq ?_ | refine g_region ?_ | refine g_block ?_ | refine g_ret ?_ | refine g_return_n ?_ | refine g_exit ?_ | refine g_skip ?_)
      repeat (first | refine g_endt ?_ | refine g_end ?_ | refine g_then ?_ | refine g_in_normal ?_ | refine g_then_ret ?_ | refine g_in_ret ?_ | refine g_then_exit ?_ | refine g_in_exit rfl ?_ | refine g_in_exit_ne (by decide) ?_ | refine g_seq ?_ | refine g_region ?_ | refine g_block ?_ | refine g_ret ?_ | refine g_return_n ?_ | refine g_exit ?_ | refine g_skip ?_)
      refine g_hideR fun Q_ hQ_ => ?_
      refine o_move ?_
      refine o_add (c := ((i + 1 : Nat) : Int)) rfl rfl (by omega) (by omega) (by omega) ?_
      refine o_assign ?_
      refine g_end (G.imp (hQ_ .normal _) ?_)
      clear hQ_ Q_
      try refine g_then ?_
      repeat (first | refine g_endt ?_ | refine g_end ?_ | refine g_then ?_ | refine g_in_normal ?_ | refine g_then_ret ?_ | refine g_in_ret ?_ | refine g_then_exit ?_ | refine g_in_exit rfl ?_ | refine g_in_exit_ne (by decide) ?_ | refine g_seq ?_ | refine g_region ?_ | refine g_block ?_ | refine g_ret ?_ | refine g_return_n ?_ | refine g_exit ?_ | refine g_skip ?_)
      exact g_meets ⟨(i + 1, U4, u4), hin⟩ (by show m - (i + 1) < m - i; omega) (Sat.mem ⟨rfl, rfl, rfl, (show Value.slice U4 (us3.length + 1) u4 = Value.slice U4 (rowB best k (i + 1)).length u4 by rw [hsn3, List.length_append]; rfl), rfl, trivial⟩)
    | false =>
      rw [hb, if_neg (by decide), List.append_nil] at hsn3
      first | refine g_seq (g_cond_f rfl (by first | rfl | (simp; done) | (simp; omega) | (simp; assumption)) ?_) | refine g_cond_f rfl (by first | rfl | (simp; done) | (simp; omega) | (simp; assumption)) ?_
      rw [← hsn3]
      repeat (first | refine g_endt ?_ | refine g_end ?_ | refine g_then ?_ | refine g_in_normal ?_ | refine g_then_ret ?_ | refine g_in_ret ?_ | refine g_then_exit ?_ | refine g_in_exit rfl ?_ | refine g_in_exit_ne (by decide) ?_ | refine g_seq ?_ | refine g_region ?_ | refine g_block ?_ | refine g_ret ?_ | refine g_return_n ?_ | refine g_exit ?_ | refine g_skip ?_)
      repeat (first | refine g_endt ?_ | refine g_end ?_ | refine g_then ?_ | refine g_in_normal ?_ | refine g_then_ret ?_ | refine g_in_ret ?_ | refine g_then_exit ?_ | refine g_in_exit rfl ?_ | refine g_in_exit_ne (by decide) ?_ | refine g_seq ?_ | refine g_region ?_ | refine g_block ?_ | refine g_ret ?_ | refine g_return_n ?_ | refine g_exit ?_ | refine g_skip ?_)
      refine g_hideR fun Q_ hQ_ => ?_
      refine o_move ?_
      refine o_add (c := ((i + 1 : Nat) : Int)) rfl rfl (by omega) (by omega) (by omega) ?_
      refine o_assign ?_
      refine g_end (G.imp (hQ_ .normal _) ?_)
      clear hQ_ Q_
      try refine g_then ?_
      repeat (first | refine g_endt ?_ | refine g_end ?_ | refine g_then ?_ | refine g_in_normal ?_ | refine g_then_ret ?_ | refine g_in_ret ?_ | refine g_then_exit ?_ | refine g_in_exit rfl ?_ | refine g_in_exit_ne (by decide) ?_ | refine g_seq ?_ | refine g_region ?_ | refine g_block ?_ | refine g_ret ?_ | refine g_return_n ?_ | refine g_exit ?_ | refine g_skip ?_)
      exact g_meets ⟨(i + 1, U3, u3), hin⟩ (by show m - (i + 1) < m - i; omega) (Sat.mem ⟨rfl, rfl, rfl, rfl, rfl, trivial⟩)
  first | refine g_seq (g_cond_f rfl (by simp; omega) ?_) | refine g_cond_f rfl (by simp; omega) ?_
  obtain rfl : i = m := by omega
  have hdec := bestB hm2 hm9 hkm best
  refine G.bring [oP U u (rowB best k i)] ?_
  refine G.frz ?_
  generalize rowB best k i = us at hrl hdec ⊢
  repeat (first | refine g_endt ?_ | refine g_end ?_ | refine g_then ?_ | refine g_in_normal ?_ | refine g_then_ret ?_ | refine g_in_ret ?_ | refine g_then_exit ?_ | refine g_in_exit rfl ?_ | refine g_in_exit_ne (by decide) ?_ | refine g_seq ?_ | refine g_region ?_ | refine g_block ?_ | refine g_ret ?_ | refine g_return_n ?_ | refine g_exit ?_ | refine g_skip ?_)
  refine g_hideR fun Q_ hQ_ => ?_
  refine o_move ?_
  refine o_call (OfP_spec U us.length u) rfl rfl ?_
  rintro _ _ ⟨b1, rfl, rfl⟩
  refine o_call (DecOfK_spec b1 U us.length u us rfl (by omega) 0 hdec) rfl rfl ?_
  rintro _ _ ⟨S1, e1, rfl, rfl⟩
  refine o_alloc fun r => ?_
  refine o_store (v := chV 0 (symO k) S1 0 e1 false) rfl rfl rfl rfl rfl ?_
  refine g_end (G.imp (hQ_ .normal _) ?_)
  clear hQ_ Q_
  try refine g_then ?_
  refine G.norm r (chV 0 (symO k) S1 0 e1 false).cells rfl ?_
  repeat (first | refine g_endt ?_ | refine g_end ?_ | refine g_then ?_ | refine g_in_normal ?_ | refine g_then_ret ?_ | refine g_in_ret ?_ | refine g_then_exit ?_ | refine g_in_exit rfl ?_ | refine g_in_exit_ne (by decide) ?_ | refine g_seq ?_ | refine g_region ?_ | refine g_block ?_ | refine g_ret ?_ | refine g_return_n ?_ | refine g_exit ?_ | refine g_skip ?_)
  refine g_hide fun Q_ hQ_ => ?_
  refine g_draw [] [0,1,2,3,4,5,6,7,8,9,10,11,12,13,14,15,16,17,18,19] [cCh r (chV 0 (symO k) S1 0 e1 false)] mixed rfl ?_
  first | refine ob_q rfl rfl ⟨_, fun X Q h => o_field rfl (g_end (h _ _ ⟨rfl, rfl⟩)), ?_⟩ | refine ob_q rfl rfl ⟨_, fun X Q h => o_fieldR rfl (by omega) (g_end (h _ _ ⟨rfl, rfl⟩)), ?_⟩
  refine ob_q rfl rfl ⟨_, fun X Q h => o_load1 (v := .int .i64 0) rfl rfl (g_end (h _ _ ⟨rfl, rfl⟩)), ?_⟩
  refine ob_q rfl rfl ⟨_, fun X Q h => o_eql rfl rfl (g_end (h _ _ ⟨rfl, rfl⟩)), ?_⟩
  refine ob_q rfl rfl ⟨_, fun X Q h => o_move (g_end (h _ _ ⟨rfl, rfl⟩)), ?_⟩
  first | refine ob_q rfl rfl ⟨_, fun X Q h => o_want rfl rfl rfl rfl rfl <| o_field rfl (g_end (h _ _ ⟨rfl, rfl⟩)), ?_⟩ | refine ob_q rfl rfl ⟨_, fun X Q h => o_want rfl rfl rfl rfl rfl <| o_fieldR rfl (by omega) (g_end (h _ _ ⟨rfl, rfl⟩)), ?_⟩ | refine ob_q rfl rfl ⟨_, fun X Q h => o_unwanted rfl rfl rfl rfl rfl (g_end (h _ _ ⟨rfl, rfl⟩)), ?_⟩ | refine ob_q rfl rfl ⟨_, fun X Q h => o_undef rfl rfl rfl (g_end (h _ _ ⟨rfl, rfl⟩)), ?_⟩
  refine ob_q rfl rfl ⟨_, fun X Q h => o_want rfl rfl rfl rfl rfl <| o_loadN (v := (symO k).val) rfl rfl rfl (g_end (h _ _ ⟨rfl, rfl⟩)), ?_⟩
  first | refine ob_q rfl rfl ⟨_, fun X Q h => o_want rfl rfl rfl rfl rfl <| o_move (g_end (h _ _ ⟨rfl, rfl⟩)), ?_⟩ | refine ob_q rfl rfl ⟨_, fun X Q h => o_unwanted rfl rfl rfl rfl rfl (g_end (h _ _ ⟨rfl, rfl⟩)), ?_⟩ | refine ob_q rfl rfl ⟨_, fun X Q h => o_undef rfl rfl rfl (g_end (h _ _ ⟨rfl, rfl⟩)), ?_⟩
  refine ob_q rfl rfl ⟨_, fun X Q h => o_want rfl rfl rfl rfl rfl <| o_add (c := (k : Int) + 1) rfl rfl rfl (by omega) (by omega) (g_end (h _ _ ⟨rfl, rfl⟩)), ?_⟩
  refine ob_q rfl rfl ⟨_, fun X Q h => o_want rfl rfl rfl rfl rfl <| o_call (I_spec ⟨#[79]⟩ ((k : Int) + 1)) rfl rfl <| by rintro _ _ ⟨rfl, rfl⟩; exact (g_end (h _ _ ⟨rfl, rfl⟩)), ?_⟩
  refine ob_q rfl rfl ⟨_, fun X Q h => o_want rfl rfl rfl rfl rfl <| o_eqty rfl rfl (eq_symb (beq_rfl' _)) (g_end (h _ _ ⟨rfl, rfl⟩)), ?_⟩
  first | refine ob_q rfl rfl ⟨_, fun X Q h => o_pick_t rfl rfl (g_end (h _ _ ⟨rfl, rfl⟩)), ?_⟩ | refine ob_q rfl rfl ⟨_, fun X Q h => o_pick_f rfl rfl (g_end (h _ _ ⟨rfl, rfl⟩)), ?_⟩
  refine ob_q rfl rfl ⟨_, fun X Q h => o_move (g_end (h _ _ ⟨rfl, rfl⟩)), ?_⟩
  first | refine ob_q rfl rfl ⟨_, fun X Q h => o_want rfl rfl rfl rfl rfl <| o_field rfl (g_end (h _ _ ⟨rfl, rfl⟩)), ?_⟩ | refine ob_q rfl rfl ⟨_, fun X Q h => o_want rfl rfl rfl rfl rfl <| o_fieldR rfl (by omega) (g_end (h _ _ ⟨rfl, rfl⟩)), ?_⟩ | refine ob_q rfl rfl ⟨_, fun X Q h => o_unwanted rfl rfl rfl rfl rfl (g_end (h _ _ ⟨rfl, rfl⟩)), ?_⟩ | refine ob_q rfl rfl ⟨_, fun X Q h => o_undef rfl rfl rfl (g_end (h _ _ ⟨rfl, rfl⟩)), ?_⟩
  refine ob_q rfl rfl ⟨_, fun X Q h => o_want rfl rfl rfl rfl rfl <| o_load1 (v := .bool false) rfl rfl (g_end (h _ _ ⟨rfl, rfl⟩)), ?_⟩
  first | refine ob_q rfl rfl ⟨_, fun X Q h => o_want rfl rfl rfl rfl rfl <| o_not rfl (g_end (h _ _ ⟨rfl, rfl⟩)), ?_⟩ | refine ob_q rfl rfl ⟨_, fun X Q h => o_unwanted rfl rfl rfl rfl rfl (g_end (h _ _ ⟨rfl, rfl⟩)), ?_⟩ | refine ob_q rfl rfl ⟨_, fun X Q h => o_undef rfl rfl rfl (g_end (h _ _ ⟨rfl, rfl⟩)), ?_⟩
  first | refine ob_q rfl rfl ⟨_, fun X Q h => o_pick_t rfl rfl (g_end (h _ _ ⟨rfl, rfl⟩)), ?_⟩ | refine ob_q rfl rfl ⟨_, fun X Q h => o_pick_f rfl rfl (g_end (h _ _ ⟨rfl, rfl⟩)), ?_⟩
  refine ob_q rfl rfl ⟨_, fun X Q h => o_move (g_end (h _ _ ⟨rfl, rfl⟩)), ?_⟩
  refine ob_q rfl rfl ⟨_, fun X Q h => o_want rfl rfl rfl rfl rfl <| o_call (wakes18_spec) rfl rfl <| by rintro _ _ ⟨rfl, rfl⟩; exact (g_end (h _ _ ⟨rfl, rfl⟩)), ?_⟩
  first | refine ob_q rfl rfl ⟨_, fun X Q h => o_pick_t rfl rfl (g_end (h _ _ ⟨rfl, rfl⟩)), ?_⟩ | refine ob_q rfl rfl ⟨_, fun X Q h => o_pick_f rfl rfl (g_end (h _ _ ⟨rfl, rfl⟩)), ?_⟩
  refine ob_q rfl rfl ⟨_, fun X Q h => o_assign (g_end (h _ _ ⟨rfl, rfl⟩)), ?_⟩
  refine ob_nil ?_
  refine G.imp (hQ_ .normal _) ?_
  clear hQ_ Q_
  try refine g_then ?_
  repeat (first | refine g_endt ?_ | refine g_end ?_ | refine g_then ?_ | refine g_in_normal ?_ | refine g_then_ret ?_ | refine g_in_ret ?_ | refine g_then_exit ?_ | refine g_in_exit rfl ?_ | refine g_in_exit_ne (by decide) ?_ | refine g_seq ?_ | refine g_region ?_ | refine g_block ?_ | refine g_ret ?_ | refine g_return_n ?_ | refine g_exit ?_ | refine g_skip ?_)
  exact ret1 (K := []) rfl (resT rfl) ⟨rfl, rfl⟩
set_option maxHeartbeats 2000000 in
theorem PickRow_spec (n0 : Int) (worse ring : Bool) : Ctr Try.prog 7 [.int .i64 n0, .bool worse, .bool ring] [] (fun v M => v = .bool true ∧ M = []) := by
  refine spec_of Try.func7 rfl Try.ntmps7 rfl fun w0 F => ?_
  -- hide
  -- ponder/ponderlaw18.PickRow
  obtain ⟨m, hm⟩ : ∃ m : Nat, 2 + (n0 % ((8 : Nat) : Int)).toNat = m := ⟨_, rfl⟩
  obtain ⟨hm2, hm9⟩ := eight hm
  repeat (first | refine g_endt ?_ | refine g_end ?_ | refine g_then ?_ | refine g_in_normal ?_ | refine g_then_ret ?_ | refine g_in_ret ?_ | refine g_then_exit ?_ | refine g_in_exit rfl ?_ | refine g_in_exit_ne (by decide) ?_ | refine g_seq ?_ | refine g_region ?_ | refine g_block ?_ | refine g_ret ?_ | refine g_return_n ?_ | refine g_exit ?_ | refine g_skip ?_)
  refine g_hideR fun Q_ hQ_ => ?_
  refine o_assign ?_
  refine g_end (G.imp (hQ_ .normal _) ?_)
  clear hQ_ Q_
  try refine g_then ?_
  repeat (first | refine g_endt ?_ | refine g_end ?_ | refine g_then ?_ | refine g_in_normal ?_ | refine g_then_ret ?_ | refine g_in_ret ?_ | refine g_then_exit ?_ | refine g_in_exit rfl ?_ | refine g_in_exit_ne (by decide) ?_ | refine g_seq ?_ | refine g_region ?_ | refine g_block ?_ | refine g_ret ?_ | refine g_return_n ?_ | refine g_exit ?_ | refine g_skip ?_)
  refine g_hideR fun Q_ hQ_ => ?_
  refine o_move ?_
  refine o_call (Within_spec n0 8 (by omega) (by omega)) rfl rfl ?_
  rintro _ _ ⟨rfl, rfl⟩
  refine o_add (c := (m : Int)) rfl rfl (by omega) (by omega) (by omega) ?_
  refine o_assign ?_
  refine g_end (G.imp (hQ_ .normal _) ?_)
  clear hQ_ Q_
  try refine g_then ?_
  repeat (first | refine g_endt ?_ | refine g_end ?_ | refine g_then ?_ | refine g_in_normal ?_ | refine g_then_ret ?_ | refine g_in_ret ?_ | refine g_then_exit ?_ | refine g_in_exit rfl ?_ | refine g_in_exit_ne (by decide) ?_ | refine g_seq ?_ | refine g_region ?_ | refine g_block ?_ | refine g_ret ?_ | refine g_return_n ?_ | refine g_exit ?_ | refine g_skip ?_)
  refine g_hideR fun Q_ hQ_ => ?_
  refine o_assign ?_
  refine g_end (G.imp (hQ_ .normal _) ?_)
  clear hQ_ Q_
  try refine g_then ?_
  repeat (first | refine g_endt ?_ | refine g_end ?_ | refine g_then ?_ | refine g_in_normal ?_ | refine g_then_ret ?_ | refine g_in_ret ?_ | refine g_then_exit ?_ | refine g_in_exit rfl ?_ | refine g_in_exit_ne (by decide) ?_ | refine g_seq ?_ | refine g_region ?_ | refine g_block ?_ | refine g_ret ?_ | refine g_return_n ?_ | refine g_exit ?_ | refine g_skip ?_)
  refine g_hideR fun Q_ hQ_ => ?_
  refine o_assign ?_
  refine g_end (G.imp (hQ_ .normal _) ?_)
  clear hQ_ Q_
  try refine g_then ?_
  repeat (first | refine g_endt ?_ | refine g_end ?_ | refine g_then ?_ | refine g_in_normal ?_ | refine g_then_ret ?_ | refine g_in_ret ?_ | refine g_then_exit ?_ | refine g_in_exit rfl ?_ | refine g_in_exit_ne (by decide) ?_ | refine g_seq ?_ | refine g_region ?_ | refine g_block ?_ | refine g_ret ?_ | refine g_return_n ?_ | refine g_exit ?_ | refine g_skip ?_)
  refine g_hideR fun Q_ hQ_ => ?_
  refine o_assign ?_
  refine g_end (G.imp (hQ_ .normal _) ?_)
  clear hQ_ Q_
  try refine g_then ?_
  refine G.nil_slice 35 encP 16 ?_
  refine G.nil_slice 26 encS 3 ?_
  repeat (first | refine g_endt ?_ | refine g_end ?_ | refine g_then ?_ | refine g_in_normal ?_ | refine g_then_ret ?_ | refine g_in_ret ?_ | refine g_then_exit ?_ | refine g_in_exit rfl ?_ | refine g_in_exit_ne (by decide) ?_ | refine g_seq ?_ | refine g_region ?_ | refine g_block ?_ | refine g_ret ?_ | refine g_return_n ?_ | refine g_exit ?_ | refine g_skip ?_)
  refine g_loop (σ := {t : Nat × (Option Addr × Nat) × (Option Addr × Nat) // t.1 ≤ m}) (S := fun t => [(0, .int .i64 (m : Int)), (1, .bool worse), (2, .bool ring), (7, .slice t.1.2.1.1 (rowR m worse ring t.1.1).length t.1.2.1.2), (8, .slice t.1.2.2.1 t.1.1 t.1.2.2.2), (9, .int .i64 (t.1.1 : Int))]) (H := fun t => [oP t.1.2.1.1 t.1.2.1.2 (rowR m worse ring t.1.1), oS t.1.2.2.1 t.1.2.2.2 (allO t.1.1)]) (μ := fun t => m - t.1.1) (s0 := ⟨(0, (none, 0), (none, 0)), Nat.zero_le _⟩) (Sat.mem ⟨rfl, rfl, rfl, rfl, rfl, rfl, trivial⟩)
    (t := (inferInstance : Take _ [oP none 0 [], oS none 0 []] _)) ?_
  rintro ⟨⟨i, ⟨U, u⟩, ⟨W, x⟩⟩, hi⟩ ρ'
  dsimp only at hi ⊢
  have hrl := rowR_len m worse ring i
  have hal := allO_len i
  repeat (first | refine g_endt ?_ | refine g_end ?_ | refine g_then ?_ | refine g_in_normal ?_ | refine g_then_ret ?_ | refine g_in_ret ?_ | refine g_then_exit ?_ | refine g_in_exit rfl ?_ | refine g_in_exit_ne (by decide) ?_ | refine g_seq ?_ | refine g_region ?_ | refine g_block ?_ | refine g_ret ?_ | refine g_return_n ?_ | refine g_exit ?_ | refine g_skip ?_)
  refine g_hideR fun Q_ hQ_ => ?_
  refine o_move ?_
  refine o_move ?_
  refine o_lss rfl rfl ?_
  refine g_end (G.imp (hQ_ .normal _) ?_)
  clear hQ_ Q_
  try refine g_then ?_
  by_cases hin : i < m
  · first | refine g_seq (g_cond_t rfl (by first | rfl | (simp; done) | (simp; omega) | (simp; assumption)) ?_) | refine g_cond_t rfl (by first | rfl | (simp; done) | (simp; omega) | (simp; assumption)) ?_
    have hsn := rowR_succ m worse ring i
    have hsa := allO_succ i
    unfold roD at hsn
    generalize rowR m worse ring i = us at hsn hrl ⊢
    generalize allO i = als at hsa hal ⊢
    repeat (first | refine g_endt ?_ | refine g_end ?_ | refine g_then ?_ | refine g_in_normal ?_ | refine g_then_ret ?_ | refine g_in_ret ?_ | refine g_then_exit ?_ | refine g_in_exit rfl ?_ | refine g_in_exit_ne (by decide) ?_ | refine g_seq ?_ | refine g_region ?_ | refine g_block ?_ | refine g_ret ?_ | refine g_return_n ?_ | refine g_exit ?_ | refine g_skip ?_)
    refine g_hideR fun Q_ hQ_ => ?_
    refine o_move ?_
    refine o_add (c := (i : Int) + 1) rfl rfl rfl (by omega) (by omega) ?_
    refine o_call (I_spec ⟨#[79]⟩ ((i : Int) + 1)) rfl rfl ?_
    rintro _ _ ⟨rfl, rfl⟩
    refine o_move ?_
    refine o_add (c := ((i + 1 : Nat) : Int) + 1) rfl rfl (by omega) (by omega) (by omega) ?_
    refine o_call (I_spec ⟨#[79]⟩ (((i + 1 : Nat) : Int) + 1)) rfl rfl ?_
    rintro _ _ ⟨rfl, rfl⟩
    refine o_alloc fun q => ?_
    refine o_alloc fun q2 => ?_
    refine o_store (v := (symO i).val) rfl rfl rfl rfl rfl ?_
    refine o_store (v := (symO (i + 1)).val) rfl rfl rfl rfl rfl ?_
    refine g_end (G.imp (hQ_ .normal _) ?_)
    clear hQ_ Q_
    try refine g_then ?_
    refine G.norm q (symO i).val.cells rfl ?_
    refine G.norm q2 (symO (i + 1)).val.cells rfl ?_
    repeat (first | refine g_endt ?_ | refine g_end ?_ | refine g_then ?_ | refine g_in_normal ?_ | refine g_then_ret ?_ | refine g_in_ret ?_ | refine g_then_exit ?_ | refine g_in_exit rfl ?_ | refine g_in_exit_ne (by decide) ?_ | refine g_seq ?_ | refine g_region ?_ | refine g_block ?_ | refine g_ret ?_ | refine g_return_n ?_ | refine g_exit ?_ | refine g_skip ?_)
    refine g_hideR fun Q_ hQ_ => ?_
    refine o_move ?_
    refine o_loadN (v := (symO i).val) rfl rfl rfl ?_
    refine o_litP (e := 26) encS [(symO i)] ((symO i)).val.cells (fun w => by kernel_rfl) (by simp [encS]) (by simp [maxLen]) fun _ => ?_
    refine o_append (xs := als) (ys := [symO i]) (by rw [hal]; rfl) rfl rfl rfl rfl (fun _ => .inr trivial) (by simp [maxLen]; omega) (by simp; omega) fun W2 x2 => ?_
    refine o_assign ?_
    refine g_end (G.imp (hQ_ .normal _) ?_)
    clear hQ_ Q_
    try refine g_then ?_
    rw [← hsa]
    repeat (first | refine g_endt ?_ | refine g_end ?_ | refine g_then ?_ | refine g_in_normal ?_ | refine g_then_ret ?_ | refine g_in_ret ?_ | refine g_then_exit ?_ | refine g_in_exit rfl ?_ | refine g_in_exit_ne (by decide) ?_ | refine g_seq ?_ | refine g_region ?_ | refine g_block ?_ | refine g_ret ?_ | refine g_return_n ?_ | refine g_exit ?_ | refine g_skip ?_)
    refine g_hideR fun Q_ hQ_ => ?_
    refine o_move ?_
    refine o_loadN (v := (symO i).val) rfl rfl rfl ?_
    refine o_build ((prefV 1 (symO i) SymD.zero).val) (fun w => by kernel_rfl) ?_
    refine o_litP (e := 35) encP [(prefV 1 (symO i) SymD.zero)] ((prefV 1 (symO i) SymD.zero)).val.cells (fun w => by kernel_rfl) (by simp [encP]) (by simp [maxLen]) fun _ => ?_
    refine o_append (xs := us) (ys := [(prefV 1 (symO i) SymD.zero)]) (by first | rfl | (simp only [List.length_map, List.length_take, List.length_append]; first | rfl | (congr 1; omega))) rfl rfl rfl rfl (fun _ => .inr trivial) (by simp [maxLen]; omega) (by simp; omega) fun U2 u2 => ?_
    refine o_assign ?_
    refine g_end (G.imp (hQ_ .normal _) ?_)
    clear hQ_ Q_
    try refine g_then ?_
    obtain ⟨us2, hus2⟩ : ∃ us2, us ++ [prefV 1 (symO i) SymD.zero] = us2 := ⟨_, rfl⟩
    have hul2 : us.length + 1 = us2.length := by rw [← hus2]; simp
    have hsn2 : rowR m worse ring (i + 1) = us2 ++ (if (decide (i + 1 = m) && !ring) = true then [] else [if worse = true then prefV 9 (if i + 1 = m then symO 0 else symO (i + 1)) (symO i) else prefV 8 (symO i) (if i + 1 = m then symO 0 else symO (i + 1))]) := by rw [hsn, ← hus2]; simp
    rw [hus2]
    have hwl : als.length + [symO i].length = i + 1 := by rw [hal]; rfl
    repeat (first | refine g_endt ?_ | refine g_end ?_ | refine g_then ?_ | refine g_in_normal ?_ | refine g_then_ret ?_ | refine g_in_ret ?_ | refine g_then_exit ?_ | refine g_in_exit rfl ?_ | refine g_in_exit_ne (by decide) ?_ | refine g_seq ?_ | refine g_region ?_ | refine g_block ?_ | refine g_ret ?_ | refine g_return_n ?_ | refine g_exit ?_ | refine g_skip ?_)
    refine g_hideR fun Q_ hQ_ => ?_
    refine o_move ?_
    refine o_move ?_
    refine o_sub (c := ((m - 1 : Nat) : Int)) rfl rfl (by omega) (by omega) (by omega) ?_
    refine o_eql rfl rfl ?_
    refine g_end (G.imp (hQ_ .normal _) ?_)
    clear hQ_ Q_
    try refine g_then ?_
    by_cases hlast : i + 1 = m
    · cases ring with
      | false =>
        first | refine g_seq (g_cond_t rfl (by simp; omega) ?_) | refine g_cond_t rfl (by simp; omega) ?_
        repeat (first | refine g_endt ?_ | refine g_end ?_ | refine g_then ?_ | refine g_in_normal ?_ | refine g_then_ret ?_ | refine g_in_ret ?_ | refine g_then_exit ?_ | refine g_in_exit rfl ?_ | refine g_in_exit_ne (by decide) ?_ | refine g_seq ?_ | refine g_region ?_ | refine g_block ?_ | refine g_ret ?_ | refine g_return_n ?_ | refine g_exit ?_ | refine g_skip ?_)
        refine g_hideR fun Q_ hQ_ => ?_
        refine o_move ?_
        refine o_not rfl ?_
        refine g_end (G.imp (hQ_ .normal _) ?_)
        clear hQ_ Q_
        try refine g_then ?_
        first | refine g_seq (g_cond_t rfl (by first | rfl | (simp; done) | (simp; omega) | (simp; assumption)) ?_) | refine g_cond_t rfl (by first | rfl | (simp; done) | (simp; omega) | (simp; assumption)) ?_
        rw [decide_eq_true hlast, show (true && !false) = true from rfl, if_pos rfl, List.append_nil] at hsn2
        rw [← hsn2]
        repeat (first | refine g_endt ?_ | refine g_end ?_ | refine g_then ?_ | refine g_in_normal ?_ | refine g_then_ret ?_ | refine g_in_ret ?_ | refine g_then_exit ?_ | refine g_in_exit rfl ?_ | refine g_in_exit_ne (by decide) ?_ | refine g_seq ?_ | refine g_region ?_ | refine g_block ?_ | refine g_ret ?_ | refine g_return_n ?_ | refine g_exit ?_ | refine g_skip ?_)
        repeat (first | refine g_endt ?_ | refine g_end ?_ | refine g_then ?_ | refine g_in_normal ?_ | refine g_then_ret ?_ | refine g_in_ret ?_ | refine g_then_exit ?_ | refine g_in_exit rfl ?_ | refine g_in_exit_ne (by decide) ?_ | refine g_seq ?_ | refine g_region ?_ | refine g_block ?_ | refine g_ret ?_ | refine g_return_n ?_ | refine g_exit ?_ | refine g_skip ?_)
        refine g_hideR fun Q_ hQ_ => ?_
        refine o_move ?_
        refine o_add (c := ((i + 1 : Nat) : Int)) rfl rfl (by omega) (by omega) (by omega) ?_
        refine o_assign ?_
        refine g_end (G.imp (hQ_ .normal _) ?_)
        clear hQ_ Q_
        try refine g_then ?_
        repeat (first | refine g_endt ?_ | refine g_end ?_ | refine g_then ?_ | refine g_in_normal ?_ | refine g_then_ret ?_ | refine g_in_ret ?_ | refine g_then_exit ?_ | refine g_in_exit rfl ?_ | refine g_in_exit_ne (by decide) ?_ | refine g_seq ?_ | refine g_region ?_ | refine g_block ?_ | refine g_ret ?_ | refine g_return_n ?_ | refine g_exit ?_ | refine g_skip ?_)
        exact g_meets ⟨(i + 1, (U2, u2), (W2, x2)), hin⟩ (by show m - (i + 1) < m - i; omega) (Sat.mem ⟨rfl, rfl, rfl, (show Value.slice U2 (us.length + 1) u2 = Value.slice U2 (rowR m worse false (i + 1)).length u2 by rw [hsn2, hul2]), (show Value.slice W2 (als.length + [symO i].length) x2 = Value.slice W2 (i + 1) x2 by rw [hwl]), rfl, trivial⟩)
      | true =>
        rw [if_neg (by simp), if_pos hlast] at hsn2
        first | refine g_seq (g_cond_t rfl (by simp; omega) ?_) | refine g_cond_t rfl (by simp; omega) ?_
        repeat (first | refine g_endt ?_ | refine g_end ?_ | refine g_then ?_ | refine g_in_normal ?_ | refine g_then_ret ?_ | refine g_in_ret ?_ | refine g_then_exit ?_ | refine g_in_exit rfl ?_ | refine g_in_exit_ne (by decide) ?_ | refine g_seq ?_ | refine g_region ?_ | refine g_block ?_ | refine g_ret ?_ | refine g_return_n ?_ | refine g_exit ?_ | refine g_skip ?_)
        refine g_hideR fun Q_ hQ_ => ?_
        refine o_move ?_
        refine o_not rfl ?_
        refine g_end (G.imp (hQ_ .normal _) ?_)
        clear hQ_ Q_
        try refine g_then ?_
        first | refine g_seq (g_cond_f rfl (by first | rfl | (simp; done) | (simp; omega) | (simp; assumption)) ?_) | refine g_cond_f rfl (by first | rfl | (simp; done) | (simp; omega) | (simp; assumption)) ?_
        repeat (first | refine g_endt ?_ | refine g_end ?_ | refine g_then ?_ | refine g_in_normal ?_ | refine g_then_ret ?_ | refine g_in_ret ?_ | refine g_then_exit ?_ | refine g_in_exit rfl ?_ | refine g_in_exit_ne (by decide) ?_ | refine g_seq ?_ | refine g_region ?_ | refine g_block ?_ | refine g_ret ?_ | refine g_return_n ?_ | refine g_exit ?_ | refine g_skip ?_)
        refine g_hideR fun Q_ hQ_ => ?_
        refine o_call (I_spec ⟨#[79]⟩ 1) rfl rfl ?_
        rintro _ _ ⟨rfl, rfl⟩
        refine o_store (v := (symO 0).val) rfl rfl rfl rfl rfl ?_
        refine g_end (G.imp (hQ_ .normal _) ?_)
        clear hQ_ Q_
        try refine g_then ?_
        refine G.norm q2 (symO 0).val.cells rfl ?_
        repeat (first | refine g_endt ?_ | refine g_end ?_ | refine g_then ?_ | refine g_in_normal ?_ | refine g_then_ret ?_ | refine g_in_ret ?_ | refine g_then_exit ?_ | refine g_in_exit rfl ?_ | refine g_in_exit_ne (by decide) ?_ | refine g_seq ?_ | refine g_region ?_ | refine g_block ?_ | refine g_ret ?_ | refine g_return_n ?_ | refine g_exit ?_ | refine g_skip ?_)
        refine g_hideR fun Q_ hQ_ => ?_
        refine o_move ?_
        refine g_end (G.imp (hQ_ .normal _) ?_)
        clear hQ_ Q_
        try refine g_then ?_
        cases worse with
        | true =>
          rw [if_pos rfl] at hsn2
          first | refine g_seq (g_cond_t rfl (by first | rfl | (simp; done) | (simp; omega) | (simp; assumption)) ?_) | refine g_cond_t rfl (by first | rfl | (simp; done) | (simp; omega) | (simp; assumption)) ?_
          repeat (first | refine g_endt ?_ | refine g_end ?_ | refine g_then ?_ | refine g_in_normal ?_ | refine g_then_ret ?_ | refine g_in_ret ?_ | refine g_then_exit ?_ | refine g_in_exit rfl ?_ | refine g_in_exit_ne (by decide) ?_ | refine g_seq ?_ | refine g_region ?_ | refine g_block ?_ | refine g_ret ?_ | refine g_return_n ?_ | refine g_exit ?_ | refine g_skip ?_)
          refine g_hideR fun Q_ hQ_ => ?_
          refine o_move ?_
          refine o_loadN (v := (symO 0).val) rfl rfl rfl ?_
          refine o_loadN (v := (symO i).val) rfl rfl rfl ?_
          refine o_build ((prefV 9 (symO 0) (symO i)).val) (fun w => by kernel_rfl) ?_
          refine o_litP (e := 35) encP [(prefV 9 (symO 0) (symO i))] ((prefV 9 (symO 0) (symO i))).val.cells (fun w => by kernel_rfl) (by simp [encP]) (by simp [maxLen]) fun _ => ?_
          refine o_append (xs := us2) (ys := [prefV 9 (symO 0) (symO i)]) (by show Value.slice U2 (us.length + 1) u2 = Value.slice U2 us2.length u2; rw [hul2]) rfl rfl rfl rfl (fun _ => .inr trivial) (by simp [maxLen]; omega) (by simp; omega) fun U3 u3 => ?_
          refine o_assign ?_
          refine g_end (G.imp (hQ_ .normal _) ?_)
          clear hQ_ Q_
          try refine g_then ?_
          rw [← hsn2]
          repeat (first | refine g_endt ?_ | refine g_end ?_ | refine g_then ?_ | refine g_in_normal ?_ | refine g_then_ret ?_ | refine g_in_ret ?_ | refine g_then_exit ?_ | refine g_in_exit rfl ?_ | refine g_in_exit_ne (by decide) ?_ | refine g_seq ?_ | refine g_region ?_ | refine g_block ?_ | refine g_ret ?_ | refine g_return_n ?_ | refine g_exit ?_ | refine g_skip ?_)
          repeat (first | refine g_endt ?_ | refine g_end ?_ | refine g_then ?_ | refine g_in_normal ?_ | refine g_then_ret ?_ | refine g_in_ret ?_ | refine g_then_exit ?_ | refine g_in_exit rfl ?_ | refine g_in_exit_ne (by decide) ?_ | refine g_seq ?_ | refine g_region ?_ | refine g_block ?_ | refine g_ret ?_ | refine g_return_n ?_ | refine g_exit ?_ | refine g_skip ?_)
          refine g_hideR fun Q_ hQ_ => ?_
          refine o_move ?_
          refine o_add (c := ((i + 1 : Nat) : Int)) rfl rfl (by omega) (by omega) (by omega) ?_
          refine o_assign ?_
          refine g_end (G.imp (hQ_ .normal _) ?_)
          clear hQ_ Q_
          try refine g_then ?_
          repeat (first | refine g_endt ?_ | refine g_end ?_ | refine g_then ?_ | refine g_in_normal ?_ | refine g_then_ret ?_ | refine g_in_ret ?_ | refine g_then_exit ?_ | refine g_in_exit rfl ?_ | refine g_in_exit_ne (by decide) ?_ | refine g_seq ?_ | refine g_region ?_ | refine g_block ?_ | refine g_ret ?_ | refine g_return_n ?_ | refine g_exit ?_ | refine g_skip ?_)
          exact g_meets ⟨(i + 1, (U3, u3), (W2, x2)), hin⟩ (by show m - (i + 1) < m - i; omega) (Sat.mem ⟨rfl, rfl, rfl, (show Value.slice U3 (us2.length + 1) u3 = Value.slice U3 (rowR m true true (i + 1)).length u3 by rw [hsn2, List.length_append]; rfl), (show Value.slice W2 (als.length + [symO i].length) x2 = Value.slice W2 (i + 1) x2 by rw [hwl]), rfl, trivial⟩)
        | false =>
          rw [if_neg (by decide)] at hsn2
          first | refine g_seq (g_cond_f rfl (by first | rfl | (simp; done) | (simp; omega) | (simp; assumption)) ?_) | refine g_cond_f rfl (by first | rfl | (simp; done) | (simp; omega) | (simp; assumption)) ?_
          repeat (first | refine g_endt ?_ | refine g_end ?_ | refine g_then ?_ | refine g_in_normal ?_ | refine g_then_ret ?_ | refine g_in_ret ?_ | refine g_then_exit ?_ | refine g_in_exit rfl ?_ | refine g_in_exit_ne (by decide) ?_ | refine g_seq ?_ | refine g_region ?_ | refine g_block ?_ | refine g_ret ?_ | refine g_return_n ?_ | refine g_exit ?_ | refine g_skip ?_)
          refine g_hideR fun Q_ hQ_ => ?_
          refine o_move ?_
          refine o_loadN (v := (symO i).val) rfl rfl rfl ?_
          refine o_loadN (v := (symO 0).val) rfl rfl rfl ?_
          refine o_build ((prefV 8 (symO i) (symO 0)).val) (fun w => by kernel_rfl) ?_
          refine o_litP (e := 35) encP [(prefV 8 (symO i) (symO 0))] ((prefV 8 (symO i) (symO 0))).val.cells (fun w => by kernel_rfl) (by simp [encP]) (by simp [maxLen]) fun _ => ?_
          refine o_append (xs := us2) (ys := [prefV 8 (symO i) (symO 0)]) (by show Value.slice U2 (us.length + 1) u2 = Value.slice U2 us2.length u2; rw [hul2]) rfl rfl rfl rfl (fun _ => .inr trivial) (by simp [maxLen]; omega) (by simp; omega) fun U3 u3 => ?_
          refine o_assign ?_
          refine g_end (G.imp (hQ_ .normal _) ?_)
          clear hQ_ Q_
          try refine g_then ?_
          rw [← hsn2]
          repeat (first | refine g_endt ?_ | refine g_end ?_ | refine g_then ?_ | refine g_in_normal ?_ | refine g_then_ret ?_ | refine g_in_ret ?_ | refine g_then_exit ?_ | refine g_in_exit rfl ?_ | refine g_in_exit_ne (by decide) ?_ | refine g_seq ?_ | refine g_region ?_ | refine g_block ?_ | refine g_ret ?_ | refine g_return_n ?_ | refine g_exit ?_ | refine g_skip ?_)
          repeat (first | refine g_endt ?_ | refine g_end ?_ | refine g_then ?_ | refine g_in_normal ?_ | refine g_then_ret ?_ | refine g_in_ret ?_ | refine g_then_exit ?_ | refine g_in_exit rfl ?_ | refine g_in_exit_ne (by decide) ?_ | refine g_seq ?_ | refine g_region ?_ | refine g_block ?_ | refine g_ret ?_ | refine g_return_n ?_ | refine g_exit ?_ | refine g_skip ?_)
          refine g_hideR fun Q_ hQ_ => ?_
          refine o_move ?_
          refine o_add (c := ((i + 1 : Nat) : Int)) rfl rfl (by omega) (by omega) (by omega) ?_
          refine o_assign ?_
          refine g_end (G.imp (hQ_ .normal _) ?_)
          clear hQ_ Q_
          try refine g_then ?_
          repeat (first | refine g_endt ?_ | refine g_end ?_ | refine g_then ?_ | refine g_in_normal ?_ | refine g_then_ret ?_ | refine g_in_ret ?_ | refine g_then_exit ?_ | refine g_in_exit rfl ?_ | refine g_in_exit_ne (by decide) ?_ | refine g_seq ?_ | refine g_region ?_ | refine g_block ?_ | refine g_ret ?_ | refine g_return_n ?_ | refine g_exit ?_ | refine g_skip ?_)
          exact g_meets ⟨(i + 1, (U3, u3), (W2, x2)), hin⟩ (by show m - (i + 1) < m - i; omega) (Sat.mem ⟨rfl, rfl, rfl, (show Value.slice U3 (us2.length + 1) u3 = Value.slice U3 (rowR m false true (i + 1)).length u3 by rw [hsn2, List.length_append]; rfl), (show Value.slice W2 (als.length + [symO i].length) x2 = Value.slice W2 (i + 1) x2 by rw [hwl]), rfl, trivial⟩)
    · rw [if_neg (by simp [hlast]), if_neg hlast] at hsn2
      first | refine g_seq (g_cond_f rfl (by simp; omega) ?_) | refine g_cond_f rfl (by simp; omega) ?_
      repeat (first | refine g_endt ?_ | refine g_end ?_ | refine g_then ?_ | refine g_in_normal ?_ | refine g_then_ret ?_ | refine g_in_ret ?_ | refine g_then_exit ?_ | refine g_in_exit rfl ?_ | refine g_in_exit_ne (by decide) ?_ | refine g_seq ?_ | refine g_region ?_ | refine g_block ?_ | refine g_ret ?_ | refine g_return_n ?_ | refine g_exit ?_ | refine g_skip ?_)
      refine g_hideR fun Q_ hQ_ => ?_
      refine o_move ?_
      refine g_end (G.imp (hQ_ .normal _) ?_)
      clear hQ_ Q_
      try refine g_then ?_
      cases worse with
      | true =>
        rw [if_pos rfl] at hsn2
        first | refine g_seq (g_cond_t rfl (by first | rfl | (simp; done) | (simp; omega) | (simp; assumption)) ?_) | refine g_cond_t rfl (by first | rfl | (simp; done) | (simp; omega) | (simp; assumption)) ?_
        repeat (first | refine g_endt ?_ | refine g_end ?_ | refine g_then ?_ | refine g_in_normal ?_ | refine g_then_ret ?_ | refine g_in_ret ?_ | refine g_then_exit ?_ | refine g_in_exit rfl ?_ | refine g_in_exit_ne (by decide) ?_ | refine g_seq ?_ | refine g_region ?_ | refine g_block ?_ | refine g_ret ?_ | refine g_return_n ?_ | refine g_exit ?_ | refine g_skip ?_)
        refine g_hideR fun Q_ hQ_ => ?_
        refine o_move ?_
        refine o_loadN (v := (symO (i + 1)).val) rfl rfl rfl ?_
        refine o_loadN (v := (symO i).val) rfl rfl rfl ?_
        refine o_build ((prefV 9 (symO (i + 1)) (symO i)).val) (fun w => by kernel_rfl) ?_
        refine o_litP (e := 35) encP [(prefV 9 (symO (i + 1)) (symO i))] ((prefV 9 (symO (i + 1)) (symO i))).val.cells (fun w => by kernel_rfl) (by simp [encP]) (by simp [maxLen]) fun _ => ?_
        refine o_append (xs := us2) (ys := [prefV 9 (symO (i + 1)) (symO i)]) (by show Value.slice U2 (us.length + 1) u2 = Value.slice U2 us2.length u2; rw [hul2]) rfl rfl rfl rfl (fun _ => .inr trivial) (by simp [maxLen]; omega) (by simp; omega) fun U3 u3 => ?_
        refine o_assign ?_
        refine g_end (G.imp (hQ_ .normal _) ?_)
        clear hQ_ Q_
        try refine g_then ?_
        rw [← hsn2]
        repeat (first | refine g_endt ?_ | refine g_end ?_ | refine g_then ?_ | refine g_in_normal ?_ | refine g_then_ret ?_ | refine g_in_ret ?_ | refine g_then_exit ?_ | refine g_in_exit rfl ?_ | refine g_in_exit_ne (by decide) ?_ | refine g_seq ?_ | refine g_region ?_ | refine g_block ?_ | refine g_ret ?_ | refine g_return_n ?_ | refine g_exit ?_ | refine g_skip ?_)
        repeat (first | refine g_endt ?_ | refine g_end ?_ | refine g_then ?_ | refine g_in_normal ?_ | refine g_then_ret ?_ | refine g_in_ret ?_ | refine g_then_exit ?_ | refine g_in_exit rfl ?_ | refine g_in_exit_ne (by decide) ?_ | refine g_seq ?_ | refine g_region ?_ | refine g_block ?_ | refine g_ret ?_ | refine g_return_n ?_ | refine g_exit ?_ | refine g_skip ?_)
        refine g_hideR fun Q_ hQ_ => ?_
        refine o_move ?_
        refine o_add (c := ((i + 1 : Nat) : Int)) rfl rfl (by omega) (by omega) (by omega) ?_
        refine o_assign ?_
        refine g_end (G.imp (hQ_ .normal _) ?_)
        clear hQ_ Q_
        try refine g_then ?_
        repeat (first | refine g_endt ?_ | refine g_end ?_ | refine g_then ?_ | refine g_in_normal ?_ | refine g_then_ret ?_ | refine g_in_ret ?_ | refine g_then_exit ?_ | refine g_in_exit rfl ?_ | refine g_in_exit_ne (by decide) ?_ | refine g_seq ?_ | refine g_region ?_ | refine g_block ?_ | refine g_ret ?_ | refine g_return_n ?_ | refine g_exit ?_ | refine g_skip ?_)
        exact g_meets ⟨(i + 1, (U3, u3), (W2, x2)), hin⟩ (by show m - (i + 1) < m - i; omega) (Sat.mem ⟨rfl, rfl, rfl, (show Value.slice U3 (us2.length + 1) u3 = Value.slice U3 (rowR m true ring (i + 1)).length u3 by rw [hsn2, List.length_append]; rfl), (show Value.slice W2 (als.length + [symO i].length) x2 = Value.slice W2 (i + 1) x2 by rw [hwl]), rfl, trivial⟩)
      | false =>
        rw [if_neg (by decide)] at hsn2
        first | refine g_seq (g_cond_f rfl (by first | rfl | (simp; done) | (simp; omega) | (simp; assumption)) ?_) | refine g_cond_f rfl (by first | rfl | (simp; done) | (simp; omega) | (simp; assumption)) ?_
        repeat (first | refine g_endt ?_ | refine g_end ?_ | refine g_then ?_ | refine g_in_normal ?_ | refine g_then_ret ?_ | refine g_in_ret ?_ | refine g_then_exit ?_ | refine g_in_exit rfl ?_ | refine g_in_exit_ne (by decide) ?_ | refine g_seq ?_ | refine g_region ?_ | refine g_block ?_ | refine g_ret ?_ | refine g_return_n ?_ | refine g_exit ?_ | refine g_skip ?_)
        refine g_hideR fun Q_ hQ_ => ?_
        refine o_move ?_
        refine o_loadN (v := (symO i).val) rfl rfl rfl ?_
        refine o_loadN (v := (symO (i + 1)).val) rfl rfl rfl ?_
        refine o_build ((prefV 8 (symO i) (symO (i + 1))).val) (fun w => by kernel_rfl) ?_
        refine o_litP (e := 35) encP [(prefV 8 (symO i) (symO (i + 1)))] ((prefV 8 (symO i) (symO (i + 1)))).val.cells (fun w => by kernel_rfl) (by simp [encP]) (by simp [maxLen]) fun _ => ?_
        refine o_append (xs := us2) (ys := [prefV 8 (symO i) (symO (i + 1))]) (by show Value.slice U2 (us.length + 1) u2 = Value.slice U2 us2.length u2; rw [hul2]) rfl rfl rfl rfl (fun _ => .inr trivial) (by simp [maxLen]; omega) (by simp; omega) fun U3 u3 => ?_
        refine o_assign ?_
        refine g_end (G.imp (hQ_ .normal _) ?_)
        clear hQ_ Q_
        try refine g_then ?_
        rw [← hsn2]
        repeat (first | refine g_endt ?_ | refine g_end ?_ | refine g_then ?_ | refine g_in_normal ?_ | refine g_then_ret ?_ | refine g_in_ret ?_ | refine g_then_exit ?_ | refine g_in_exit rfl ?_ | refine g_in_exit_ne (by decide) ?_ | refine g_seq ?_ | refine g_region ?_ | refine g_block ?_ | refine g_ret ?_ | refine g_return_n ?_ | refine g_exit ?_ | refine g_skip ?_)
        repeat (first | refine g_endt ?_ | refine g_end ?_ | refine g_then ?_ | refine g_in_normal ?_ | refine g_then_ret ?_ | refine g_in_ret ?_ | refine g_then_exit ?_ | refine g_in_exit rfl ?_ | refine g_in_exit_ne (by decide) ?_ | refine g_seq ?_ | refine g_region ?_ | refine g_block ?_ | refine g_ret ?_ | refine g_return_n ?_ | refine g_exit ?_ | refine g_skip ?_)
        refine g_hideR fun Q_ hQ_ => ?_
        refine o_move ?_
        refine o_add (c := ((i + 1 : Nat) : Int)) rfl rfl (by omega) (by omega) (by omega) ?_
        refine o_assign ?_
        refine g_end (G.imp (hQ_ .normal _) ?_)
        clear hQ_ Q_
        try refine g_then ?_
        repeat (first | refine g_endt ?_ | refine g_end ?_ | refine g_then ?_ | refine g_in_normal ?_ | refine g_then_ret ?_ | refine g_in_ret ?_ | refine g_then_exit ?_ | refine g_in_exit rfl ?_ | refine g_in_exit_ne (by decide) ?_ | refine g_seq ?_ | refine g_region ?_ | refine g_block ?_ | refine g_ret ?_ | refine g_return_n ?_ | refine g_exit ?_ | refine g_skip ?_)
        exact g_meets ⟨(i + 1, (U3, u3), (W2, x2)), hin⟩ (by show m - (i + 1) < m - i; omega) (Sat.mem ⟨rfl, rfl, rfl, (show Value.slice U3 (us2.length + 1) u3 = Value.slice U3 (rowR m false ring (i + 1)).length u3 by rw [hsn2, List.length_append]; rfl), (show Value.slice W2 (als.length + [symO i].length) x2 = Value.slice W2 (i + 1) x2 by rw [hwl]), rfl, trivial⟩)
  first | refine g_seq (g_cond_f rfl (by simp; omega) ?_) | refine g_cond_f rfl (by simp; omega) ?_
  obtain rfl : i = m := by omega
  have hdec := ringR hm2 hm9 worse
  refine G.bring [oP U u (rowR i worse ring i)] ?_
  refine G.frz ?_
  refine G.bring [oS W x (allO i)] ?_
  refine G.frz ?_
  obtain ⟨cd, hcd, hc2⟩ : ∃ cd, decP (rowR i worse ring i) 3 = cd ∧ cd = (if ring = true then ⟨2, SymD.zero, allO i, false⟩ else ⟨0, symO 0, [], false⟩) := ⟨_, rfl, by cases ring with | true => exact hdec.1 | false => exact hdec.2⟩
  have h0 : (allO i)[0]? = some (symO 0) := by rw [allO, List.getElem?_map, List.getElem?_range (by omega)]; rfl
  generalize rowR i worse ring i = us at hrl hcd ⊢
  generalize allO i = als at hal hc2 h0 ⊢
  repeat (first | refine g_endt ?_ | refine g_end ?_ | refine g_then ?_ | refine g_in_normal ?_ | refine g_then_ret ?_ | refine g_in_ret ?_ | refine g_then_exit ?_ | refine g_in_exit rfl ?_ | refine g_in_exit_ne (by decide) ?_ | refine g_seq ?_ | refine g_region ?_ | refine g_block ?_ | refine g_ret ?_ | refine g_return_n ?_ | refine g_exit ?_ | refine g_skip ?_)
  refine g_hideR fun Q_ hQ_ => ?_
  refine o_move ?_
  refine o_call (OfP_spec U us.length u) rfl rfl ?_
  rintro _ _ ⟨b1, rfl, rfl⟩
  refine o_call (DecOfK_spec b1 U us.length u us rfl (by omega) 3 hcd) rfl rfl ?_
  rintro _ _ ⟨S1, e1, rfl, rfl⟩
  refine o_alloc fun r => ?_
  refine o_store (v := chD cd S1 e1) rfl rfl rfl rfl rfl ?_
  refine g_end (G.imp (hQ_ .normal _) ?_)
  clear hQ_ Q_
  try refine g_then ?_
  refine G.norm r (chD cd S1 e1).cells rfl ?_
  repeat (first | refine g_endt ?_ | refine g_end ?_ | refine g_then ?_ | refine g_in_normal ?_ | refine g_then_ret ?_ | refine g_in_ret ?_ | refine g_then_exit ?_ | refine g_in_exit rfl ?_ | refine g_in_exit_ne (by decide) ?_ | refine g_seq ?_ | refine g_region ?_ | refine g_block ?_ | refine g_ret ?_ | refine g_return_n ?_ | refine g_exit ?_ | refine g_skip ?_)
  refine g_hideR fun Q_ hQ_ => ?_
  refine o_move ?_
  refine g_end (G.imp (hQ_ .normal _) ?_)
  clear hQ_ Q_
  try refine g_then ?_
  cases ring with
  | true =>
    rw [if_pos rfl] at hc2
    subst hc2
    first | refine g_seq (g_cond_t rfl (by first | rfl | (simp; done) | (simp; omega) | (simp; assumption)) ?_) | refine g_cond_t rfl (by first | rfl | (simp; done) | (simp; omega) | (simp; assumption)) ?_
    repeat (first | refine g_endt ?_ | refine g_end ?_ | refine g_then ?_ | refine g_in_normal ?_ | refine g_then_ret ?_ | refine g_in_ret ?_ | refine g_then_exit ?_ | refine g_in_exit rfl ?_ | refine g_in_exit_ne (by decide) ?_ | refine g_seq ?_ | refine g_region ?_ | refine g_block ?_ | refine g_ret ?_ | refine g_return_n ?_ | refine g_exit ?_ | refine g_skip ?_)
    refine g_hideR fun Q_ hQ_ => ?_
    first | refine o_field rfl ?_ | refine o_fieldR rfl (by omega) ?_
    refine o_load1 (v := .int .i64 2) rfl rfl ?_
    refine o_eql rfl rfl ?_
    refine o_move ?_
    first | (refine o_want rfl rfl rfl rfl rfl ?_; (first | refine o_field rfl ?_ | refine o_fieldR rfl (by omega) ?_)) | refine o_unwanted rfl rfl rfl rfl rfl ?_ | refine o_undef rfl rfl rfl ?_
    refine o_want rfl rfl rfl rfl rfl (o_load1 (v := .slice S1 als.length e1) rfl rfl ?_)
    first | (refine o_want rfl rfl rfl rfl rfl ?_; refine o_move ?_) | refine o_unwanted rfl rfl rfl rfl rfl ?_ | refine o_undef rfl rfl rfl ?_
    rw [hal]
    refine o_want rfl rfl rfl rfl rfl (o_callp (Syms_spec S1 W i e1 x als hal (by omega)) rfl rfl ?_)
    rintro _ _ ⟨rfl, rfl⟩
    first | refine o_pick_t rfl rfl ?_ | refine o_pick_f rfl rfl ?_
    refine o_move ?_
    refine o_want rfl rfl rfl rfl rfl (o_call (wakes18_spec) rfl rfl ?_)
    rintro _ _ ⟨rfl, rfl⟩
    first | refine o_pick_t rfl rfl ?_ | refine o_pick_f rfl rfl ?_
    refine o_assign ?_
    refine g_end (G.imp (hQ_ .normal _) ?_)
    clear hQ_ Q_
    try refine g_then ?_
    repeat (first | refine g_endt ?_ | refine g_end ?_ | refine g_then ?_ | refine g_in_normal ?_ | refine g_then_ret ?_ | refine g_in_ret ?_ | refine g_then_exit ?_ | refine g_in_exit rfl ?_ | refine g_in_exit_ne (by decide) ?_ | refine g_seq ?_ | refine g_region ?_ | refine g_block ?_ | refine g_ret ?_ | refine g_return_n ?_ | refine g_exit ?_ | refine g_skip ?_)
    exact ret1 (K := []) rfl (resT rfl) ⟨rfl, rfl⟩
  | false =>
    rw [if_neg (by decide)] at hc2
    subst hc2
    first | refine g_seq (g_cond_f rfl (by first | rfl | (simp; done) | (simp; omega) | (simp; assumption)) ?_) | refine g_cond_f rfl (by first | rfl | (simp; done) | (simp; omega) | (simp; assumption)) ?_
    repeat (first | refine g_endt ?_ | refine g_end ?_ | refine g_then ?_ | refine g_in_normal ?_ | refine g_then_ret ?_ | refine g_in_ret ?_ | refine g_then_exit ?_ | refine g_in_exit rfl ?_ | refine g_in_exit_ne (by decide) ?_ | refine g_seq ?_ | refine g_region ?_ | refine g_block ?_ | refine g_ret ?_ | refine g_return_n ?_ | refine g_exit ?_ | refine g_skip ?_)
    refine g_hide fun Q_ hQ_ => ?_
    refine g_draw [] [0,1,2,3,4,5,6,7,8,9,10,11,12,13,14,15,16,17,18,19] [cCh r (chV 0 (symO 0) S1 0 e1 false), psl encS 3 W als] mixed rfl ?_
    first | refine ob_q rfl rfl ⟨_, fun X Q h => o_field rfl (g_end (h _ _ ⟨rfl, rfl⟩)), ?_⟩ | refine ob_q rfl rfl ⟨_, fun X Q h => o_fieldR rfl (by omega) (g_end (h _ _ ⟨rfl, rfl⟩)), ?_⟩
    refine ob_q rfl rfl ⟨_, fun X Q h => o_load1 (v := .int .i64 0) rfl rfl (g_end (h _ _ ⟨rfl, rfl⟩)), ?_⟩
    refine ob_q rfl rfl ⟨_, fun X Q h => o_eql rfl rfl (g_end (h _ _ ⟨rfl, rfl⟩)), ?_⟩
    refine ob_q rfl rfl ⟨_, fun X Q h => o_move (g_end (h _ _ ⟨rfl, rfl⟩)), ?_⟩
    first | refine ob_q rfl rfl ⟨_, fun X Q h => o_want rfl rfl rfl rfl rfl <| o_field rfl (g_end (h _ _ ⟨rfl, rfl⟩)), ?_⟩ | refine ob_q rfl rfl ⟨_, fun X Q h => o_want rfl rfl rfl rfl rfl <| o_fieldR rfl (by omega) (g_end (h _ _ ⟨rfl, rfl⟩)), ?_⟩ | refine ob_q rfl rfl ⟨_, fun X Q h => o_unwanted rfl rfl rfl rfl rfl (g_end (h _ _ ⟨rfl, rfl⟩)), ?_⟩ | refine ob_q rfl rfl ⟨_, fun X Q h => o_undef rfl rfl rfl (g_end (h _ _ ⟨rfl, rfl⟩)), ?_⟩
    refine ob_q rfl rfl ⟨_, fun X Q h => o_want rfl rfl rfl rfl rfl <| o_loadN (v := (symO 0).val) rfl rfl rfl (g_end (h _ _ ⟨rfl, rfl⟩)), ?_⟩
    first | refine ob_q rfl rfl ⟨_, fun X Q h => o_want rfl rfl rfl rfl rfl <| o_move (g_end (h _ _ ⟨rfl, rfl⟩)), ?_⟩ | refine ob_q rfl rfl ⟨_, fun X Q h => o_unwanted rfl rfl rfl rfl rfl (g_end (h _ _ ⟨rfl, rfl⟩)), ?_⟩ | refine ob_q rfl rfl ⟨_, fun X Q h => o_undef rfl rfl rfl (g_end (h _ _ ⟨rfl, rfl⟩)), ?_⟩
    refine ob_q rfl rfl ⟨_, fun X Q h => o_want rfl rfl rfl rfl rfl <| o_indexR (ys := als) (i := 0) rfl rfl rfl (by omega) hal rfl (g_end (h _ _ ⟨rfl, rfl⟩)), ?_⟩
    refine ob_q rfl rfl ⟨_, fun X Q h => o_want rfl rfl rfl rfl rfl <| o_loadE (ys := als) rfl rfl h0 (g_end (h _ _ ⟨rfl, rfl⟩)), ?_⟩
    refine ob_q rfl rfl ⟨_, fun X Q h => o_want rfl rfl rfl rfl rfl <| o_eqty rfl rfl (eq_symb (beq_rfl' _)) (g_end (h _ _ ⟨rfl, rfl⟩)), ?_⟩
    first | refine ob_q rfl rfl ⟨_, fun X Q h => o_pick_t rfl rfl (g_end (h _ _ ⟨rfl, rfl⟩)), ?_⟩ | refine ob_q rfl rfl ⟨_, fun X Q h => o_pick_f rfl rfl (g_end (h _ _ ⟨rfl, rfl⟩)), ?_⟩
    refine ob_q rfl rfl ⟨_, fun X Q h => o_move (g_end (h _ _ ⟨rfl, rfl⟩)), ?_⟩
    first | refine ob_q rfl rfl ⟨_, fun X Q h => o_want rfl rfl rfl rfl rfl <| o_field rfl (g_end (h _ _ ⟨rfl, rfl⟩)), ?_⟩ | refine ob_q rfl rfl ⟨_, fun X Q h => o_want rfl rfl rfl rfl rfl <| o_fieldR rfl (by omega) (g_end (h _ _ ⟨rfl, rfl⟩)), ?_⟩ | refine ob_q rfl rfl ⟨_, fun X Q h => o_unwanted rfl rfl rfl rfl rfl (g_end (h _ _ ⟨rfl, rfl⟩)), ?_⟩ | refine ob_q rfl rfl ⟨_, fun X Q h => o_undef rfl rfl rfl (g_end (h _ _ ⟨rfl, rfl⟩)), ?_⟩
    refine ob_q rfl rfl ⟨_, fun X Q h => o_want rfl rfl rfl rfl rfl <| o_load1 (v := .bool false) rfl rfl (g_end (h _ _ ⟨rfl, rfl⟩)), ?_⟩
    first | refine ob_q rfl rfl ⟨_, fun X Q h => o_want rfl rfl rfl rfl rfl <| o_not rfl (g_end (h _ _ ⟨rfl, rfl⟩)), ?_⟩ | refine ob_q rfl rfl ⟨_, fun X Q h => o_unwanted rfl rfl rfl rfl rfl (g_end (h _ _ ⟨rfl, rfl⟩)), ?_⟩ | refine ob_q rfl rfl ⟨_, fun X Q h => o_undef rfl rfl rfl (g_end (h _ _ ⟨rfl, rfl⟩)), ?_⟩
    first | refine ob_q rfl rfl ⟨_, fun X Q h => o_pick_t rfl rfl (g_end (h _ _ ⟨rfl, rfl⟩)), ?_⟩ | refine ob_q rfl rfl ⟨_, fun X Q h => o_pick_f rfl rfl (g_end (h _ _ ⟨rfl, rfl⟩)), ?_⟩
    refine ob_q rfl rfl ⟨_, fun X Q h => o_move (g_end (h _ _ ⟨rfl, rfl⟩)), ?_⟩
    refine ob_q rfl rfl ⟨_, fun X Q h => o_want rfl rfl rfl rfl rfl <| o_call (wakes18_spec) rfl rfl <| by rintro _ _ ⟨rfl, rfl⟩; exact (g_end (h _ _ ⟨rfl, rfl⟩)), ?_⟩
    first | refine ob_q rfl rfl ⟨_, fun X Q h => o_pick_t rfl rfl (g_end (h _ _ ⟨rfl, rfl⟩)), ?_⟩ | refine ob_q rfl rfl ⟨_, fun X Q h => o_pick_f rfl rfl (g_end (h _ _ ⟨rfl, rfl⟩)), ?_⟩
    refine ob_q rfl rfl ⟨_, fun X Q h => o_assign (g_end (h _ _ ⟨rfl, rfl⟩)), ?_⟩
    refine ob_nil ?_
    refine G.imp (hQ_ .normal _) ?_
    clear hQ_ Q_
    try refine g_then ?_
    repeat (first | refine g_endt ?_ | refine g_end ?_ | refine g_then ?_ | refine g_in_normal ?_ | refine g_then_ret ?_ | refine g_in_ret ?_ | refine g_then_exit ?_ | refine g_in_exit rfl ?_ | refine g_in_exit_ne (by decide) ?_ | refine g_seq ?_ | refine g_region ?_ | refine g_block ?_ | refine g_ret ?_ | refine g_return_n ?_ | refine g_exit ?_ | refine g_skip ?_)
    exact ret1 (K := []) rfl (resT rfl) ⟨rfl, rfl⟩
end Go.Proofs.Ytljiooihhfndjaa
/- From a contract to a row: arguments opened, what a law leaves behind. Plain library, no program in sight. -/
namespace Go.Sl
open Go Go.Proofs Go.RowKit Go.ChangeShapes Go.WideShapes

theorem law_calls {P : Program} {f : FuncId} {args : List Value} {K : List SProp} {R : Value → List SProp → Prop} {W : World} (sp : Ctr P f args K R) (hK : holds (star (whole W) (sl K)) W) :
    Calls P f args.toArray W fun e W' => ∃ v L', e = .returned v ∧ R v L' ∧ Below W.heap.size W W' :=
  (sp W (whole W) hK).mono fun e W' ⟨v, L', he, hr, hh, hs⟩ => ⟨v, L', he, hr, hs.os, hs.tape, hs.output, hs.size, fun k hk => by
    have l : Le (hp W) (hp W') := (sees_whole W).left W' hh
    have h1 : hp W k = some W.heap[k] := by show W.heap[k]? = _; simp [hk]
    have h2 := l k _ h1
    show hp W' k = hp W k
    rw [h1, h2]⟩
theorem holds_nil (W : World) : holds (star (whole W) (sl [])) W := (holds_whole W).ent ((Ent.emp_left (whole W)).trans (Ent.comm _ _))
theorem holds_psl {W : World} {K : List SProp} {α : Type} {enc : α → List Value} {sz : Nat} {A : Option Addr} {ys : List α} (h : holds (star (whole W) (sl K)) W) (r : rdE A enc sz ys (hp W)) : holds (star (whole W) (sl (psl enc sz A ys :: K))) W := by
  obtain ⟨B, k, d, l, m, k1, k2, d12, l1, l2, x, y⟩ := h
  exact ⟨B, k, d, l, m, k1, k2, d12, l1, l2, x, hnil, k2, (Dj.nil _).symm, .nil _, .refl _, rdE.le r x, y⟩

section
variable {H : Type} {enc : TypeId × Value → H} {P : Program}
theorem trodAll_stays (hl : laidOutB P = true) {W W' : World} {sp : Nat → Bool} : ∀ {ts : List TypeId} {vs : List Value} {ds : List (DataW H)} {ps : List MemPlace}, (∀ t ∈ ts, P.readableRec t = true ∧ t < P.types.size) →
    DataW.TrodAll enc P W 0 (fun _ => true) true ts vs ds ps → (∀ p ∈ ps, W.sameAt W' p) → (∀ p ∈ ps, sp p.block = true) → DataW.TrodAll enc P W' 0 sp true ts vs ds ps
  | [], [], [], _, _, h, _, _ => h
  | t :: ts, v :: vs, d :: ds, _, hr, ⟨p, q, h1, h2, rfl⟩, hb, hs => ⟨p, q, WideElems.Trod_stays hl (hr t List.mem_cons_self).1 (hr t List.mem_cons_self).2 h1 (fun x hx => hb x (List.mem_append_left _ hx)) (fun x hx => hs x (List.mem_append_left _ hx)),
    trodAll_stays hl (fun u hu => hr u (List.mem_cons_of_mem _ hu)) h2 (fun x hx => hb x (List.mem_append_right _ hx)) (fun x hx => hs x (List.mem_append_right _ hx)), rfl⟩
/-- A law that answers true, and behind which nothing has turned that was there. -/
theorem post_law {f : Func} {s : ChangeSpec} {apart fresh handsOn again : Bool} {W W' : World} {args : Array Value} {ds gs : List (DataW H)} {before : List MemPlace} {tb : TypeId}
    (hW : DataW.Whole enc P f.params.toList s.vars apart W args.toList ds gs before) (hl : laidOutB P = true) (hvs : s.vars = [])
    (hs : s.fn H ds = { results := [.lit (.bool true)], args := ds }) (hr : f.resultTypes = #[tb]) (ht : P.underlying tb = some .bool)
    (hrow : ∀ t ∈ f.params.toList, P.readableRec t = true ∧ t < P.types.size) (hb : Below W.heap.size W W') :
    s.post enc P f apart fresh handsOn again W args (.bool true) W' := by
  have hlt : ∀ p ∈ before, p.block < W.heap.size := fun p hp => hW.lt p hp
  have hW0 := hW
  obtain ⟨p, q, hA, hV, rfl, hz, hn⟩ := hW
  have hgq : gs = [] ∧ q = [] := by
    rw [hvs] at hV
    cases gs with
    | nil => exact ⟨rfl, hV⟩
    | cons g gs => exact hV.elim
  obtain ⟨rfl, rfl⟩ := hgq
  simp only [List.append_nil] at hlt hz hn hW0
  have hsp : s.fn H (ds ++ []) = { results := [.lit (.bool true)], args := ds } := by rw [List.append_nil]; exact hs
  have hargs : ∀ sp : Nat → Bool, (∀ x ∈ p, sp x.block = true) → DataW.TrodAll enc P W' 0 sp true f.params.toList args.toList ds p :=
    fun sp h => trodAll_stays hl hrow hA (fun x hx => hb.same (hlt x hx)) h
  have hold : ∀ x ∈ p, decide (x.block < W.heap.size) = true := fun x hx => by simpa using hlt x hx
  have hvr : ∀ (sp : Nat → Bool), DataW.TrodVars enc P W' sp s.vars [] [] := fun sp => by rw [hvs]; exact rfl
  have hres : ∀ (b : Nat) (sp : Nat → Bool) (hd : Bool), DataW.TrodAll enc P W' b sp hd f.resultTypes.toList ((Value.bool true).resultList f.resultTypes.size) [.lit (.bool true)] [] := fun b sp hd => by
    rw [hr]
    exact trodAll_mk1 (shut_bool ht true)
  refine ⟨ds, [], p, [], p, [], hW0, by rw [hsp]; exact hres _ _ _, by rw [hsp]; exact hargs _ hold, by rw [hsp]; exact hvr _, World.keptBut_mono (fun x hx => ⟨hx, .inr (.inl hx)⟩) (hb.frame (· ∈ p)), fun _ => ⟨?_, ?_⟩⟩
  · exact ok_one hr rfl (okWide_bool_mk ht true)
  · refine ⟨_, [], ([] ++ p), ⟨[] ++ p, [], trodAll_append (hargs _ (fun _ _ => rfl)) (hres _ _ _), hvr _, by simp, ?_, ?_⟩, ?_⟩
    · intro b off hp
      have hin : MemPlace.cell b off ∈ p := by simpa using hp
      rw [hb.frozen (hlt _ hin)]
      exact hz b off hin
    · intro ha
      simpa using hn ha
    · intro x hx _
      simpa using hx

/-! ### Slices among the arguments -/
theorem mapM_get {α β : Type} {f : α → Option β} : ∀ {l : List α} {r : List β}, l.mapM f = some r → ∀ (i : Nat) (x : α), l[i]? = some x → ∃ y, r[i]? = some y ∧ f x = some y
  | [], r, h, i, x, hx => by simp at hx
  | a :: l, r, h, i, x, hx => by
    rw [List.mapM_cons] at h
    cases ha : f a with
    | none => rw [ha] at h; cases h
    | some b =>
      rw [ha] at h
      cases hr : l.mapM f with
      | none => rw [hr] at h; cases h
      | some r' =>
        rw [hr] at h
        cases h
        cases i with
        | zero => simp at hx; subst hx; exact ⟨b, rfl, ha⟩
        | succ i => exact mapM_get hr i x (by simpa using hx)
theorem cells_get {w : World} {a : Addr} {n : Nat} {cs : List Value} (h : w.cells? 0 a n = some cs) {j : Nat} {u : Value} (hu : cs[j]? = some u) : w.cell? (a.add j) = some u := by
  simp only [World.cells?, Nat.zero_le, if_true] at h
  have hl : cs.length = n := by have := mapM_some_length h; simpa using this
  have hj : j < n := by rw [← hl]; exact (List.getElem?_eq_some_iff.1 hu).1
  obtain ⟨y, h1, h2⟩ := mapM_get h j j (by simp [hj])
  rw [h1] at hu
  cases hu
  exact h2
theorem cellH_of_cell {w : World} {a : Addr} {u : Value} (h : w.cell? a = some u) : a.spot = none ∧ cellH (hp w) a.block a.off = some u := by
  unfold World.cell? at h
  unfold cellH hp
  cases hb : w.heap[a.block]? with
  | none => rw [hb] at h; cases h
  | some o =>
    rw [hb] at h
    cases o with
    | cells c t fr =>
      cases hs : a.spot with
      | none => simp [hs] at h; exact ⟨rfl, h⟩
      | some s => simp [hs] at h
    | _ => cases h
/-- A slice's one cell; its elements, told by what each element's cells are; that they lie there for ever. -/
theorem open_cs {t e : TypeId} {W : World} {fuel : Nat} {cs : List Value} {x : DataW H × List MemPlace} {α : Type} {en : α → List Value} {sz : Nat} {Pr : α → Prop} [el : EncLen en sz] (ht : P.underlying t = some (.slice e)) (hc : P.cellsOf e = sz) (hsz : 0 < sz)
    (he : ∀ n cs x, DataW.trod enc P W 0 (fun _ => true) true n e cs = some x → ∃ y : α, cs = en y ∧ Pr y) (hf : DataW.trod enc P W 0 (fun _ => true) true fuel t cs = some x) :
    ∃ (A : Option Addr) (len cap : Nat) (ys : List α), cs = [.slice A len cap] ∧ ys.length = len ∧ len ≤ maxLen ∧ rdE A en sz ys (hp W) ∧ ∀ y ∈ ys, Pr y := by
  rcases Go.Deep.open_slice ht hf with ⟨h1, _⟩ | ⟨a, len, cap, m, n, D, Pl, h1, _, hl, hm, hmm, _, hel⟩
  · exact ⟨none, 0, 0, [], h1, rfl, Nat.zero_le _, fun i y hy => by simp at hy, fun y hy => by simp at hy⟩
  · simp only [if_true] at hmm
    have key : ∀ i, i < len → ∃ y : α, (∀ j u, (en y)[j]? = some u → W.cell? ((a.add (i * sz)).add j) = some u) ∧ Pr y := fun i hi => by
      obtain ⟨cs', h2, h3⟩ := hel i (by omega)
      obtain ⟨y, rfl, hy⟩ := he n cs' _ h3
      rw [hc] at h2
      exact ⟨y, fun j u hu => cells_get h2 hu, hy⟩
    refine ⟨some a, len, cap, List.ofFn (fun i : Fin len => Classical.choose (key i.1 i.2)), h1, by simp, by omega, ?_, ?_⟩
    · intro i y hy
      have hi : i < len := by have := (List.getElem?_eq_some_iff.1 hy).1; simpa using this
      have hy' : y = Classical.choose (key i hi) := by simpa [hi] using hy.symm
      have hcs := (Classical.choose_spec (key i hi)).1
      rw [← hy'] at hcs
      have hs : a.spot = none := by
        obtain ⟨y0, hy0, _⟩ := key 0 (by omega)
        have hne : 0 < (en y0).length := by rw [el.len]; exact hsz
        have h0 := (cellH_of_cell (hy0 0 _ (List.getElem?_eq_getElem hne))).1
        simpa [Addr.add] using h0
      obtain ⟨b, k, sp⟩ := a
      dsimp only at hs
      subst hs
      refine ⟨b, k, rfl, fun j u hu => ?_⟩
      have h1 := (cellH_of_cell (hcs j u hu)).2
      simpa [add_off, Nat.add_assoc] using h1
    · intro y hy
      obtain ⟨i, rfl⟩ := List.mem_ofFn.1 hy
      exact (Classical.choose_spec (key i.1 i.2)).2
/-- A slice that is read. -/
theorem open_pslP {t e : TypeId} {v : Value} {d : DataW H} {ps : List MemPlace} {W : World} {α : Type} {en : α → List Value} {sz : Nat} {Pr : α → Prop} [el : EncLen en sz] (ht : P.underlying t = some (.slice e)) (hc : P.cellsOf e = sz) (hsz : 0 < sz)
    (he : ∀ n cs x, DataW.trod enc P W 0 (fun _ => true) true n e cs = some x → ∃ y : α, cs = en y ∧ Pr y) {b0 : Nat} (hv : Value.okWide P W .any b0 t v) (h : DataW.Trod enc P W 0 (fun _ => true) true t v d ps) :
    ∃ (A : Option Addr) (len cap : Nat) (ys : List α), v = .slice A len cap ∧ ys.length = len ∧ len ≤ maxLen ∧ rdE A en sz ys (hp W) ∧ ∀ y ∈ ys, Pr y := by
  obtain ⟨fuel, hf⟩ := h
  obtain ⟨a0, len0, cap0, rfl⟩ := okWide_slice ht hv
  obtain ⟨A, len, cap, ys, h1, h2⟩ := open_cs ht hc hsz he hf
  simp only [Value.cells, List.cons.injEq, and_true] at h1
  exact ⟨A, len, cap, ys, h1, h2⟩
theorem open_psl {t e : TypeId} {v : Value} {d : DataW H} {ps : List MemPlace} {W : World} {α : Type} {en : α → List Value} {sz : Nat} [el : EncLen en sz] (ht : P.underlying t = some (.slice e)) (hc : P.cellsOf e = sz) (hsz : 0 < sz)
    (he : ∀ n cs x, DataW.trod enc P W 0 (fun _ => true) true n e cs = some x → ∃ y : α, cs = en y) {b0 : Nat} (hv : Value.okWide P W .any b0 t v) (h : DataW.Trod enc P W 0 (fun _ => true) true t v d ps) :
    ∃ (A : Option Addr) (len cap : Nat) (ys : List α), v = .slice A len cap ∧ ys.length = len ∧ len ≤ maxLen ∧ rdE A en sz ys (hp W) :=
  let ⟨A, len, cap, ys, h1, h2, h3, h4, _⟩ := open_pslP (Pr := fun _ => True) ht hc hsz (fun n cs x hx => let ⟨y, hy⟩ := he n cs x hx; ⟨y, hy, trivial⟩) hv h
  ⟨A, len, cap, ys, h1, h2, h3, h4⟩
/-- A slice's room. -/
theorem open_cap {t e : TypeId} {v : Value} {d : DataW H} {ps : List MemPlace} {W : World} (ht : P.underlying t = some (.slice e)) (h : DataW.Trod enc P W 0 (fun _ => true) true t v d ps) : ∀ A len cap, v = .slice A len cap → len ≤ cap := by
  rintro A len cap rfl
  obtain ⟨fuel, hf⟩ := h
  rcases DataW.trod_slice ht hf with ⟨h1, _⟩ | ⟨a, len', cap', _, _, n, _, h1, _, _, hl, _⟩
  · simp [Value.cells] at h1
    obtain ⟨_, rfl, rfl⟩ := h1
    exact Nat.le_refl _
  · simp [Value.cells] at h1
    obtain ⟨_, rfl, rfl⟩ := h1
    exact hl
end
end Go.Sl
/- Symbols, elements, numbers among a law's arguments. -/
namespace Go.Proofs.Ytljiooihhfndjaa
open Go Go.Sl Go.RowKit Go.ChangeShapes Go.WideShapes Go.Deep

section
variable {H : Type} {enc : TypeId × Value → H} {W : World}
set_option maxRecDepth 100000 in
theorem cells_field {P : Program} {t ft : TypeId} {n i off sz : Nat} {cs : List Value} {x : DataW H × List MemPlace} (ht : P.underlying t = some (.struct (P.fieldsOf t))) (h : DataW.trod enc P W 0 (fun _ => true) true n t cs = some x)
    (hf : ((P.fieldsOf t)[i]?).map (fun f => (f.type, f.offset)) = some (ft, off)) (hsz : P.cellsOf ft = sz) : ∃ m y, DataW.trod enc P W 0 (fun _ => true) true m ft ((cs.drop off).take sz) = some y := by
  obtain ⟨xs, m, _, _, _, hlen, hg⟩ := DataW.trod_struct ht h
  cases hi : (P.fieldsOf t)[i]? with
  | none => rw [hi] at hf; cases hf
  | some f =>
    rw [hi] at hf
    cases hf
    subst hsz
    have hlt : i < xs.length := by rw [hlen]; exact (Array.getElem?_eq_some_iff.1 hi).1
    exact ⟨m, xs[i], (hg i f hi).trans (List.getElem?_eq_getElem hlt)⟩
set_option maxRecDepth 100000 in
theorem cells_length {P : Program} {t : TypeId} {n sz : Nat} {cs : List Value} {x : DataW H × List MemPlace} (ht : P.underlying t = some (.struct (P.fieldsOf t))) (h : DataW.trod enc P W 0 (fun _ => true) true n t cs = some x) (hsz : P.cellsOf t = sz) : cs.length = sz := by
  obtain ⟨_, _, _, _, hl, _⟩ := DataW.trod_struct ht h
  exact hl.trans hsz
set_option maxRecDepth 100000 in
theorem cells_int {n : Nat} {cs : List Value} {x : DataW H × List MemPlace} (h : DataW.trod enc Try.prog W 0 (fun _ => true) true n 3 cs = some x) : ∃ k, cs = [.int .i64 k] :=
  let ⟨k, h, _⟩ := DataW.trod_int (by kernel_rfl) h; ⟨k, h⟩
set_option maxRecDepth 100000 in
theorem cells_bool {n : Nat} {cs : List Value} {x : DataW H × List MemPlace} (h : DataW.trod enc Try.prog W 0 (fun _ => true) true n 4 cs = some x) : ∃ k, cs = [.bool k] :=
  let ⟨k, h, _⟩ := DataW.trod_bool (by kernel_rfl) h; ⟨k, h⟩
set_option maxRecDepth 100000 in
theorem cells_string {n : Nat} {cs : List Value} {x : DataW H × List MemPlace} (h : DataW.trod enc Try.prog W 0 (fun _ => true) true n 9 cs = some x) : ∃ k, cs = [.string k] :=
  let ⟨k, h, _⟩ := DataW.trod_string (by kernel_rfl) h; ⟨k, h⟩
set_option maxRecDepth 100000 in
theorem cells_sym {n : Nat} {cs : List Value} {x : DataW H × List MemPlace} (h : DataW.trod enc Try.prog W 0 (fun _ => true) true n 26 cs = some x) : ∃ s : SymD, cs = s.cells := by
  have hl := cells_length (sz := 3) (by kernel_rfl) h (by kernel_rfl)
  obtain ⟨m0, y0, f0⟩ := cells_field (i := 0) (ft := 3) (off := 0) (sz := 1) (by kernel_rfl) h (by kernel_rfl) (by kernel_rfl)
  obtain ⟨m1, y1, f1⟩ := cells_field (i := 1) (ft := 9) (off := 1) (sz := 1) (by kernel_rfl) h (by kernel_rfl) (by kernel_rfl)
  obtain ⟨m2, y2, f2⟩ := cells_field (i := 2) (ft := 3) (off := 2) (sz := 1) (by kernel_rfl) h (by kernel_rfl) (by kernel_rfl)
  obtain ⟨k0, g0⟩ := cells_int f0
  obtain ⟨k1, g1⟩ := cells_string f1
  obtain ⟨k2, g2⟩ := cells_int f2
  match cs, hl with
  | [c0, c1, c2], _ =>
    simp at g0 g1 g2
    subst g0; subst g1; subst g2
    exact ⟨⟨k0, k1, k2⟩, rfl⟩
set_option maxRecDepth 100000 in
theorem cells_encI {n : Nat} {cs : List Value} {x : DataW H × List MemPlace} (h : DataW.trod enc Try.prog W 0 (fun _ => true) true n 3 cs = some x) : ∃ k : Int, cs = encI k := cells_int h
set_option maxRecDepth 100000 in
theorem open_sym {v : Value} {d : DataW H} {ps : List MemPlace} {b0 : Nat} (hv : Value.okWide Try.prog W .any b0 26 v) (h : DataW.Trod enc Try.prog W 0 (fun _ => true) true 26 v d ps) : ∃ s : SymD, v = s.val := by
  obtain ⟨cs, rfl, _⟩ := okWide_struct (fs := Try.prog.fieldsOf 26) (by kernel_rfl) hv
  obtain ⟨n, hn⟩ := h
  obtain ⟨e, he⟩ := cells_sym hn
  exact ⟨e, by rw [show cs = e.val.cells from Array.toList_inj.1 he]; rfl⟩
end
end Go.Proofs.Ytljiooihhfndjaa
/- Preferences among a law's arguments. -/
namespace Go.Proofs.Ytljiooihhfndjaa
open Go Go.Sl Go.RowKit Go.ChangeShapes Go.WideShapes Go.Deep
section
variable {H : Type} {enc : TypeId × Value → H} {W : World}
set_option maxRecDepth 100000 in
theorem cells_pref {n : Nat} {cs : List Value} {x : DataW H × List MemPlace} (h : DataW.trod enc Try.prog W 0 (fun _ => true) true n 35 cs = some x) : ∃ e : PrefD, cs = e.val.cells.toList := by
  have hl := cells_length (sz := 16) (by kernel_rfl) h (by kernel_rfl)
  obtain ⟨m0, y0, f0⟩ := cells_field (i := 0) (ft := 26) (off := 0) (sz := 3) (by kernel_rfl) h (by kernel_rfl) (by kernel_rfl)
  obtain ⟨m1, y1, f1⟩ := cells_field (i := 1) (ft := 26) (off := 3) (sz := 3) (by kernel_rfl) h (by kernel_rfl) (by kernel_rfl)
  obtain ⟨m2, y2, f2⟩ := cells_field (i := 2) (ft := 26) (off := 6) (sz := 3) (by kernel_rfl) h (by kernel_rfl) (by kernel_rfl)
  obtain ⟨m3, y3, f3⟩ := cells_field (i := 3) (ft := 26) (off := 9) (sz := 3) (by kernel_rfl) h (by kernel_rfl) (by kernel_rfl)
  obtain ⟨m4, y4, f4⟩ := cells_field (i := 4) (ft := 3) (off := 12) (sz := 1) (by kernel_rfl) h (by kernel_rfl) (by kernel_rfl)
  obtain ⟨m5, y5, f5⟩ := cells_field (i := 5) (ft := 4) (off := 13) (sz := 1) (by kernel_rfl) h (by kernel_rfl) (by kernel_rfl)
  obtain ⟨m6, y6, f6⟩ := cells_field (i := 6) (ft := 3) (off := 14) (sz := 1) (by kernel_rfl) h (by kernel_rfl) (by kernel_rfl)
  obtain ⟨m7, y7, f7⟩ := cells_field (i := 7) (ft := 3) (off := 15) (sz := 1) (by kernel_rfl) h (by kernel_rfl) (by kernel_rfl)
  obtain ⟨k0, g0⟩ := cells_sym f0
  obtain ⟨k1, g1⟩ := cells_sym f1
  obtain ⟨k2, g2⟩ := cells_sym f2
  obtain ⟨k3, g3⟩ := cells_sym f3
  obtain ⟨k4, g4⟩ := cells_int f4
  obtain ⟨k5, g5⟩ := cells_bool f5
  obtain ⟨k6, g6⟩ := cells_int f6
  obtain ⟨k7, g7⟩ := cells_int f7
  match cs, hl with
  | [c0, c1, c2, c3, c4, c5, c6, c7, c8, c9, c10, c11, c12, c13, c14, c15], _ =>
    simp [SymD.cells] at g0 g1 g2 g3 g4 g5 g6 g7
    obtain ⟨rfl, rfl, rfl⟩ := g0
    obtain ⟨rfl, rfl, rfl⟩ := g1
    obtain ⟨rfl, rfl, rfl⟩ := g2
    obtain ⟨rfl, rfl, rfl⟩ := g3
    subst g4; subst g5; subst g6; subst g7
    exact ⟨⟨k0, k1, k2, k3, k4, k5, k6, k7⟩, rfl⟩
set_option maxRecDepth 100000 in
theorem open_pref {v : Value} {d : DataW H} {ps : List MemPlace} {b0 : Nat} (hv : Value.okWide Try.prog W .any b0 35 v) (h : DataW.Trod enc Try.prog W 0 (fun _ => true) true 35 v d ps) : ∃ e : PrefD, v = e.val := by
  obtain ⟨cs, rfl, _⟩ := okWide_struct (fs := Try.prog.fieldsOf 35) (by kernel_rfl) hv
  obtain ⟨n, hn⟩ := h
  obtain ⟨e, he⟩ := cells_pref hn
  exact ⟨e, by rw [show cs = e.val.cells from Array.toList_inj.1 he]; rfl⟩
theorem cells_encP {H : Type} {enc : TypeId × Value → H} {W : World} {n : Nat} {cs : List Value} {x : DataW H × List MemPlace} (h : DataW.trod enc Try.prog W 0 (fun _ => true) true n 35 cs = some x) : ∃ e : PrefD, cs = encP e := cells_pref h
end
end Go.Proofs.Ytljiooihhfndjaa
