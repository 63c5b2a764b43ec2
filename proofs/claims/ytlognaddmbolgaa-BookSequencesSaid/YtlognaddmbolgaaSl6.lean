/- Slices: read by everybody for ever, or owned; append. Plain library, no program in sight. -/
import Derived.Test.YtlognaddmbolgaaSl5
import Derived.Maps.AppendAt
import Derived.Laws.OwnMore
namespace Go.Sl
open Go Go.Proofs Go.RowKit

/-! ### What stays may be had twice -/
class Pers (X : SProp) : Prop where
  on : ∀ B h, X.on B h → X.on B hnil
instance {b : Nat} {o : Obj} : Pers (pblk b o) := ⟨fun _ _ x => x⟩
instance {p : Prop} : Pers (pu p) := ⟨fun _ _ x => x⟩
theorem Pers.dup {X : SProp} [p : Pers X] (C : SProp) : Ent (star X C) (star X (star X C)) :=
  fun B _ ⟨_, h2, _, _, m2, x, y⟩ => ⟨hnil, h2, (Dj.nil _).symm, .nil _, m2, p.on B _ x, hnil, h2, (Dj.nil _).symm, .nil _, .refl _, p.on B _ x, y⟩
class HasP (L : List SProp) (X : SProp) : Prop where
  ent : Ent (sl L) (star X (sl L))
instance (priority := low) HasP.tail {Y X : SProp} {L : List SProp} [h : HasP L X] : HasP (Y :: L) X := ⟨((Ent.refl Y).star h.ent).trans (Ent.swap _ _ _)⟩
instance HasP.head {X : SProp} {L : List SProp} [Pers X] : HasP (X :: L) X := ⟨Pers.dup _⟩
instance HasP.appl {X : SProp} {L M : List SProp} [h : HasP L X] : HasP (L ++ M) X :=
  ⟨(sl_append_to L M).trans (((h.ent.star (Ent.refl _)).trans (Ent.assoc _ _ _)).trans ((Ent.refl X).star (sl_append_of L M)))⟩
instance (priority := low) HasP.appr {X : SProp} {L M : List SProp} [h : HasP M X] : HasP (L ++ M) X :=
  ⟨(sl_append_to L M).trans ((((Ent.refl _).star h.ent).trans (Ent.swap _ _ _)).trans ((Ent.refl X).star (sl_append_of L M)))⟩
class TakeP (L : List SProp) (K : List SProp) : Prop where
  ent : Ent (sl L) (star (sl K) (sl L))
instance TakeP.nil {L : List SProp} : TakeP L [] := ⟨Ent.emp_left _⟩
instance TakeP.cons {X : SProp} {L K : List SProp} [h : HasP L X] [k : TakeP L K] : TakeP L (X :: K) := ⟨h.ent.trans (((Ent.refl X).star k.ent).trans (Ent.assoc' _ _ _))⟩

/-! ### Reading a row of cells -/
def cellH (h : Hp) (b k : Nat) : Option Value := match h b with
  | some (.cells c _ _) => c[k]?
  | _ => none
theorem cellH_le {h h' : Hp} (l : Le h h') {b k : Nat} {v : Value} (e : cellH h b k = some v) : cellH h' b k = some v := by
  unfold cellH at e ⊢
  cases hb : h b with
  | none => rw [hb] at e; cases e
  | some o => rw [hb] at e; rw [l _ _ hb]; exact e
theorem cell_of_cellH {w : World} {b k : Nat} {v : Value} (e : cellH (hp w) b k = some v) : w.cell? ⟨b, k, none⟩ = some v := by
  unfold cellH hp at e
  unfold World.cell?
  cases hb : w.heap[b]? with
  | none => rw [hb] at e; cases e
  | some o =>
    rw [hb] at e
    cases o <;> simp_all
/-- The slice at A reads as ys, each of them sz cells. -/
def rdE {α : Type} (A : Option Addr) (enc : α → List Value) (sz : Nat) (ys : List α) (h : Hp) : Prop :=
  ∀ i y, ys[i]? = some y → ∃ b k, A = some ⟨b, k, none⟩ ∧ ∀ j u, (enc y)[j]? = some u → cellH h b (k + (i * sz + j)) = some u
theorem rdE.le {α : Type} {A : Option Addr} {enc : α → List Value} {sz : Nat} {ys : List α} {h h' : Hp} (r : rdE A enc sz ys h) (l : Le h h') : rdE A enc sz ys h' := fun i y hy =>
  let ⟨b, k, e, f⟩ := r i y hy; ⟨b, k, e, fun j u hu => cellH_le l (f j u hu)⟩
/-- Read by everybody for ever. -/
def psl {α : Type} (enc : α → List Value) (sz : Nat) (A : Option Addr) (ys : List α) : SProp := ⟨fun B _ => rdE A enc sz ys B, fun l _ r => r.le l⟩
/-- Owned: a row of its own, with room for c. -/
def osl {α : Type} (e : TypeId) (enc : α → List Value) (sz : Nat) (A : Option Addr) (c : Nat) (ys : List α) : SProp where
  on _ h := (A = none ∧ ys = [] ∧ c = 0) ∨ ∃ g cur, A = some ⟨g, 0, none⟩ ∧ h g = some (.cells cur e (0, 0)) ∧ ys.length ≤ c ∧ c ≤ maxLen ∧ cur.size = c * sz ∧ cur.toList.take (ys.length * sz) = ys.flatMap enc
  mono := fun _ m x => x.imp id fun ⟨g, cur, a, b, r⟩ => ⟨g, cur, a, m _ _ b, r⟩
instance {α : Type} {enc : α → List Value} {sz : Nat} {A : Option Addr} {ys : List α} : Pers (psl enc sz A ys) := ⟨fun _ _ x => x⟩

/-- All of a type's values take sz cells. -/
class EncLen {α : Type} (enc : α → List Value) (sz : outParam Nat) : Prop where
  len : ∀ y, (enc y).length = sz
  one : ∀ y, ∀ u ∈ enc y, u.oneCell' = true
theorem flat_len {α : Type} {enc : α → List Value} {sz : Nat} [e : EncLen enc sz] (ys : List α) : (ys.flatMap enc).length = ys.length * sz := by
  induction ys with
  | nil => simp
  | cons y ys ih => simp only [List.flatMap_cons, List.length_append, e.len, ih, List.length_cons, Nat.add_mul, Nat.one_mul]; omega
theorem flat_get {α : Type} {enc : α → List Value} {sz : Nat} [e : EncLen enc sz] : ∀ (ys : List α) (i j : Nat) (y : α) (u : Value), ys[i]? = some y → (enc y)[j]? = some u → (ys.flatMap enc)[i * sz + j]? = some u
  | [], i, j, y, u, h, _ => by simp at h
  | x :: ys, 0, j, y, u, h, hu => by
    simp at h
    subst h
    have hj : j < (enc x).length := (List.getElem?_eq_some_iff.1 hu).1
    simp only [List.flatMap_cons, Nat.zero_mul, Nat.zero_add]
    rw [List.getElem?_append_left hj]
    exact hu
  | x :: ys, i + 1, j, y, u, h, hu => by
    have ih := flat_get ys i j y u (by simpa using h) hu
    simp only [List.flatMap_cons]
    rw [List.getElem?_append_right (by rw [e.len, Nat.add_mul]; omega), e.len]
    have : (i + 1) * sz + j - sz = i * sz + j := by rw [Nat.add_mul]; omega
    rw [this]
    exact ih
theorem osl_rd {α : Type} {e : TypeId} {enc : α → List Value} {sz : Nat} [en : EncLen enc sz] {A : Option Addr} {c : Nat} {ys : List α} {B h : Hp} (x : (osl e enc sz A c ys).on B h) : rdE A enc sz ys h := by
  intro i y hy
  rcases x with ⟨_, rfl, _⟩ | ⟨g, cur, hA, hg, hl, hc, hs, ht⟩
  · simp at hy
  · refine ⟨g, 0, hA, fun j u hu => ?_⟩
    have h1 := flat_get ys i j y u hy hu
    rw [← ht] at h1
    have h2 : cur[i * sz + j]? = some u := by
      rw [List.getElem?_take] at h1
      split at h1
      · simpa using h1
      · cases h1
    simp [cellH, hg, h2]
class HasRd (L : List SProp) (A : Option Addr) {α : outParam Type} (enc : outParam (α → List Value)) (sz : outParam Nat) (ys : outParam (List α)) : Prop where
  sees : Sees (sl L) (rdE A enc sz ys)
instance (priority := low) HasRd.tail {X : SProp} {L : List SProp} {A : Option Addr} {α : Type} {enc : α → List Value} {sz : Nat} {ys : List α} [h : HasRd L A enc sz ys] : HasRd (X :: L) A enc sz ys := ⟨h.sees.right⟩
instance HasRd.head {L : List SProp} {A : Option Addr} {α : Type} {enc : α → List Value} {sz : Nat} {ys : List α} : HasRd (psl enc sz A ys :: L) A enc sz ys :=
  ⟨Sees.left fun _ ⟨_, _, _, l, _, x⟩ => rdE.le x l⟩
instance HasRd.ohead {L : List SProp} {A : Option Addr} {α : Type} {e : TypeId} {enc : α → List Value} {sz c : Nat} {ys : List α} [EncLen enc sz] : HasRd (osl e enc sz A c ys :: L) A enc sz ys :=
  ⟨Sees.left fun _ ⟨_, _, _, _, m, x⟩ => (osl_rd x).le m⟩
instance HasRd.appl {L X : List SProp} {A : Option Addr} {α : Type} {enc : α → List Value} {sz : Nat} {ys : List α} [h : HasRd L A enc sz ys] : HasRd (L ++ X) A enc sz ys := ⟨h.sees.left.ent (sl_append_to L X)⟩
instance (priority := low) HasRd.appr {L X : List SProp} {A : Option Addr} {α : Type} {enc : α → List Value} {sz : Nat} {ys : List α} [h : HasRd X A enc sz ys] : HasRd (L ++ X) A enc sz ys := ⟨h.sees.right.ent (sl_append_to L X)⟩

/-- The address of a slice's cell j. -/
def padr (A : Option Addr) (j : Nat) : Value := .pointer (A.map (·.add j))
theorem padr_some (b k j : Nat) : padr (some ⟨b, k, none⟩) j = .pointer (some ⟨b, k + j, none⟩) := by simp [padr, add_off]

section
variable {w0 : World} {A : SProp} {L : List SProp} {ro : Option Nat} {P : Program} {Q : Exit → Act → World → Prop} {all : Array Oper} {os : List Oper} {n : Nat} {ρ : Nat → Value} {ds : List Nat}
variable {d : Option Tmp} {ty : TypeId} {pos : String} {af : Array Edge} {x y : Operand}
theorem G.dup (X : SProp) {Φ : World → Prop} [h : HasP L X] (k : G w0 A (X :: L) Φ) : G w0 A L Φ := G.ent (L := L) (L' := X :: L) h.ent k
section
variable {α : Type} {enc : α → List Value} {sz : Nat} {ys : List α} {S : Option Addr} {i : Nat} {z : α}
theorem o_indexR {t e : TypeId} {len cap sz' : Nat} {kd : IntKind} {m : Int} (hx : ev n ρ x = .slice S len cap) (hy : ev n ρ y = .int kd m) (hm : m = (i : Int)) [hr : HasRd L S enc sz ys] [st : SlTy P t e sz'] (hi : i < ys.length) (hl : ys.length = len) (hs : sz' = sz)
    (h : G w0 A L (fun w => runL ro P all Q os (act n (updo ρ d (padr S (i * sz))) ds) w)) :
    G w0 A L (fun w => runL ro P all Q ({ dst := d, op := .indexAddr t x y, type := ty, pos := pos, after := af, guard := none } :: os) (act n ρ ds) w) :=
  o_val rfl (by intro c e; cases e) (fun w _ hh => by
    subst hs
    obtain ⟨b, k, rfl, _⟩ := hr.sees.right w hh i ys[i] (List.getElem?_eq_getElem hi)
    rw [padr_some]
    simp only [execOp]
    refine run_v ?_
    rw [hx, hy]
    have h1 : (0 : Int) ≤ m ∧ m < (len : Int) := by omega
    have h2 : m.toNat = i := by omega
    simp [Instr.indexAt, asIntOf, run_underlying st.ty, h1.1, h1.2, h2, st.size, add_off]) h
theorem o_fieldR {t : TypeId} {f off j : Nat} (hx : ev n ρ x = padr S j) [hr : HasRd L S enc sz ys] [fo : FieldOff P t f off] (hne : 0 < ys.length)
    (h : G w0 A L (fun w => runL ro P all Q os (act n (updo ρ d (padr S (j + off))) ds) w)) :
    G w0 A L (fun w => runL ro P all Q ({ dst := d, op := .fieldAddr t x f, type := ty, pos := pos, after := af, guard := none } :: os) (act n ρ ds) w) :=
  o_val rfl (by intro c e; cases e) (fun w _ hh => by
    obtain ⟨b, k, rfl, _⟩ := hr.sees.right w hh 0 ys[0] (List.getElem?_eq_getElem hne)
    rw [padr_some] at hx ⊢
    simp only [execOp]
    refine run_v ?_
    rw [hx, ← Nat.add_assoc]
    exact fo.run b (k + j) w) h
theorem run_loadR {t : TypeId} {b k o s : Nat} {w : World} [ta : TyA P t s] {vs : List Value} (hl : vs.length = s) (hc : ∀ j u, vs[j]? = some u → cellH (hp w) b (k + (o + j)) = some u) : (loadVar t ⟨b, k + o, none⟩).run P w = .ok (.agg vs.toArray) w := by
  have := run_loadCells_list (P := P) w ⟨b, k + o, none⟩ vs (fun j u hu => by
    rw [add_off, Nat.add_assoc]
    exact cell_of_cellH (hc j u hu))
  rw [hl] at this
  simp [loadVar, ta.agg, ta.size, this]
/-- A whole element. -/
theorem o_loadE {t : TypeId} {sz' : Nat} (hx : ev n ρ x = padr S (i * sz)) [hr : HasRd L S enc sz ys] [el : EncLen enc sz] [ta : TyA P t sz'] (hs : sz' = sz) (hz : ys[i]? = some z)
    (h : G w0 A L (fun w => runL ro P all Q os (act n (updo ρ d (.agg (enc z).toArray)) ds) w)) :
    G w0 A L (fun w => runL ro P all Q ({ dst := d, op := .load t x, type := ty, pos := pos, after := af, guard := none } :: os) (act n ρ ds) w) :=
  o_val rfl (by intro c e; cases e) (fun w _ hh => by
    obtain ⟨b, k, rfl, hc⟩ := hr.sees.right w hh i z hz
    rw [padr_some] at hx
    simp only [execOp]
    refine run_v ?_
    rw [hx]
    simp [Instr.loadAt, Instr.sureAddr, run_loadR (P := P) (t := t) (vs := enc z) (by rw [el.len, hs]) hc]) h
/-- A part of an element that is an aggregate. -/
theorem o_loadEN {t : TypeId} {off s : Nat} (hx : ev n ρ x = padr S (i * sz + off)) [hr : HasRd L S enc sz ys] [ta : TyA P t s] (hz : ys[i]? = some z) {v : Value} (hb : Nat.ble (off + s) (enc z).length = true) (hv : .agg (((enc z).drop off).take s).toArray = v)
    (h : G w0 A L (fun w => runL ro P all Q os (act n (updo ρ d v) ds) w)) :
    G w0 A L (fun w => runL ro P all Q ({ dst := d, op := .load t x, type := ty, pos := pos, after := af, guard := none } :: os) (act n ρ ds) w) :=
  o_val rfl (by intro c e; cases e) (fun w _ hh => by
    obtain ⟨b, k, rfl, hc⟩ := hr.sees.right w hh i z hz
    rw [padr_some] at hx
    simp only [execOp]
    refine run_v ?_
    rw [hx, ← hv]
    have hb' := Nat.le_of_ble_eq_true hb
    have := run_loadR (P := P) (t := t) (b := b) (k := k) (o := i * sz + off) (w := w) (vs := ((enc z).drop off).take s) (by simp; omega) (fun j u hu => by
      rw [List.getElem?_take] at hu
      split at hu
      · rw [List.getElem?_drop] at hu
        have := hc (off + j) u hu
        rwa [show i * sz + off + j = i * sz + (off + j) from by omega]
      · cases hu)
    simp [Instr.loadAt, Instr.sureAddr, this]) h
/-- A part of an element that is one cell. -/
theorem o_loadE1 {t : TypeId} {off : Nat} {v : Value} (hx : ev n ρ x = padr S (i * sz + off)) [hr : HasRd L S enc sz ys] [ts : TyS P t] (hz : ys[i]? = some z) (hv : (enc z)[off]? = some v)
    (h : G w0 A L (fun w => runL ro P all Q os (act n (updo ρ d v) ds) w)) :
    G w0 A L (fun w => runL ro P all Q ({ dst := d, op := .load t x, type := ty, pos := pos, after := af, guard := none } :: os) (act n ρ ds) w) :=
  o_val rfl (by intro c e; cases e) (fun w _ hh => by
    obtain ⟨b, k, rfl, hc⟩ := hr.sees.right w hh i z hz
    rw [padr_some] at hx
    simp only [execOp]
    refine run_v ?_
    rw [hx]
    simp [Instr.loadAt, Instr.sureAddr, loadVar, ts.agg, run_load, cell_of_cellH (hc off v hv)]) h
/-- An element that is one cell. -/
theorem o_loadE0 {t : TypeId} {v : Value} (hx : ev n ρ x = padr S (i * sz)) [hr : HasRd L S enc sz ys] [ts : TyS P t] (hz : ys[i]? = some z) (hv : (enc z)[0]? = some v)
    (h : G w0 A L (fun w => runL ro P all Q os (act n (updo ρ d v) ds) w)) :
    G w0 A L (fun w => runL ro P all Q ({ dst := d, op := .load t x, type := ty, pos := pos, after := af, guard := none } :: os) (act n ρ ds) w) :=
  o_loadE1 (off := 0) hx hz hv h
theorem o_boxc {t : TypeId} {v : Value} (cs : Array Value) (hx : ev n ρ x = v) (hc : v.cells = cs) (h : ∀ b, G w0 A (cellsB b cs t :: L) (fun w => runL ro P all Q os (act n (updo ρ d (.pointer (some ⟨b, 0, none⟩))) ds) w)) :
    G w0 A L (fun w => runL ro P all Q ({ dst := d, op := .box t x, type := ty, pos := pos, after := af, guard := none } :: os) (act n ρ ds) w) := o_box hx fun b => by rw [hc]; exact h b
end
/-! ### Calls by contracts over what stays -/
theorem o_callp {f : FuncId} {args : List Operand} {tys : Array TypeId} {vs : List Value} {cal : Operand} {K : List SProp} {R : Value → List SProp → Prop} [en : En P f] (sp : Ctr P f vs K R)
    (hf : ev n ρ cal = .func (.func f) #[] #[]) (ha : args.map (ev n ρ) = vs) [t : TakeP L K]
    (h : ∀ v L', R v L' → G w0 A (L' ++ L) (fun w => runL ro P all Q os (act n (updo ρ d v) ds) w)) :
    G w0 A L (fun w => runL ro P all Q ({ dst := d, op := .call { callee := .value cal, args := args.toArray, argTypes := tys }, type := ty, pos := pos, after := af, guard := none } :: os) (act n ρ ds) w) := by
  refine G.ent (L' := K ++ L) (t.ent.trans (sl_append_of K L)) ?_
  exact o_call sp hf ha (t := ⟨.refl _⟩) h
/-- Both: what stays (Kp) and what is handed over (Kc). -/
theorem o_callx {f : FuncId} {args : List Operand} {tys : Array TypeId} {vs : List Value} {cal : Operand} (Kp Kc : List SProp) {M : List SProp} {R : Value → List SProp → Prop} [en : En P f] (sp : Ctr P f vs (Kp ++ Kc) R)
    (hf : ev n ρ cal = .func (.func f) #[] #[]) (ha : args.map (ev n ρ) = vs) [tp : TakeP L Kp] [t : Take L Kc M]
    (h : ∀ v L', R v L' → G w0 A (L' ++ M) (fun w => runL ro P all Q os (act n (updo ρ d v) ds) w)) :
    G w0 A L (fun w => runL ro P all Q ({ dst := d, op := .call { callee := .value cal, args := args.toArray, argTypes := tys }, type := ty, pos := pos, after := af, guard := none } :: os) (act n ρ ds) w) := by
  refine G.ent (L' := Kp ++ L) (tp.ent.trans (sl_append_of Kp L)) ?_
  exact o_call sp hf ha (t := ⟨by rw [List.append_assoc]; exact t.perm.append_left Kp⟩) h
end

/-! ### append -/
/-- What a type's row of the table tells an append. -/
class ApTy (P : Program) (t : TypeId) (e sz bytes : outParam Nat) : Prop where
  ex : ∃ i z, P.underlying t = some (.slice e) ∧ P.info? e = some i ∧ i.zero = some z ∧ i.size = sz ∧ i.bytes = bytes ∧ z.cells.size = sz
  pos : 0 < sz
theorem ApTy.of {P : Program} {t : TypeId} {e sz bytes : Nat} (ht : P.underlying t = some (.slice e)) (hi : (P.info? e).map (fun i => (i.size, i.bytes, i.zero.map fun z => z.cells.size)) = some (sz, bytes, some sz)) (hp : 0 < sz) : ApTy P t e sz bytes := by
  refine ⟨?_, hp⟩
  cases h : P.info? e with
  | none => rw [h] at hi; cases hi
  | some i =>
    rw [h] at hi
    cases hz : i.zero with
    | none => rw [Option.map_some, hz] at hi; cases hi
    | some z =>
      rw [Option.map_some, hz] at hi
      simp only [Option.map_some, Option.some.injEq, Prod.mk.injEq] at hi
      exact ⟨i, z, ht, rfl, hz, hi.1, hi.2.1, hi.2.2⟩
section
variable {w0 : World} {A : SProp} {L : List SProp} {ro : Option Nat} {P : Program} {Q : Exit → Act → World → Prop} {all : Array Oper} {os : List Oper} {n : Nat} {ρ : Nat → Value} {ds : List Nat}
variable {d : Option Tmp} {ty : TypeId} {pos : String} {af : Array Edge} {x y : Operand}
variable {α : Type} {enc : α → List Value} {sz : Nat} {xs ys : List α} {S S' : Option Addr}
theorem owns_of {e : TypeId} [en : EncLen enc sz] {c : Nat} {C : SProp} {w : World} (h : holds (star (osl e enc sz S c xs) C) w) : w.ownsRow 0 e sz (.slice S xs.length c) xs.length (xs.flatMap enc) := by
  obtain ⟨B, k, d, l, m, k1, k2, d12, l1, l2, x, y⟩ := h
  refine ⟨flat_len xs, ?_⟩
  rcases x with ⟨rfl, rfl, rfl⟩ | ⟨g, cur, rfl, hg, hl, hc, hs, ht⟩
  · exact .inl ⟨rfl, rfl⟩
  · exact .inr ⟨g, c, cur, rfl, Nat.zero_le _, m _ _ (l1 _ _ hg), hl, hc, hs, ht⟩
theorem osl_of_owns {e : TypeId} {zs : List α} {v : Value} {w : World} (ho : w.ownsRow 0 e sz v zs.length (zs.flatMap enc)) : ∃ S c, v = .slice S zs.length c ∧
    ((S = none ∧ zs = [] ∧ c = 0) ∨ ∃ g cur, S = some ⟨g, 0, none⟩ ∧ hp w g = some (.cells cur e (0, 0)) ∧ zs.length ≤ c ∧ c ≤ maxLen ∧ cur.size = c * sz ∧ cur.toList.take (zs.length * sz) = zs.flatMap enc) := by
  rcases ho.2 with ⟨rfl, h0⟩ | ⟨g, cap, cur, rfl, _, hg, h1, h2, h3, h4⟩
  · exact ⟨none, 0, by rw [h0], .inl ⟨rfl, List.eq_nil_of_length_eq_zero h0, rfl⟩⟩
  · exact ⟨some ⟨g, 0, none⟩, cap, rfl, .inr ⟨g, cur, rfl, hg, h1, h2, h3, h4⟩⟩
/-- An owned row grown by a step that turns its own block alone. -/
theorem holds.grown {e : TypeId} {c : Nat} {zs : List α} {v' : Value} {C : SProp} {w w' : World} (h : holds (star (osl e enc sz S c xs) C) w) (ho : w'.ownsRow 0 e sz v' zs.length (zs.flatMap enc))
    (hg : w.grownBy w' (Value.ownBlock (.slice S xs.length c))) (hb : v'.ownBlock = Value.ownBlock (.slice S xs.length c) ∨ v'.ownBlock = some w.heap.size) :
    ∃ S' c', v' = .slice S' zs.length c' ∧ holds (star (osl e enc sz S' c' zs) C) w' := by
  obtain ⟨S', c', rfl, hx⟩ := osl_of_owns (enc := enc) ho
  refine ⟨S', c', rfl, ?_⟩
  obtain ⟨B, k, d, l, m, k1, k2, d12, l1, l2, x, y⟩ := h
  -- what is not the row's own block lies as it lay
  have far : ∀ p : Hp, Le p (hp w) → (∀ g, (Value.ownBlock (.slice S xs.length c)) = some g → p g = none) → Le p (hp w') := fun p lp hn b o hpb => by
    have hbw := lp _ _ hpb
    have hne : some b ≠ Value.ownBlock (.slice S xs.length c) := fun e => by rw [hn b e.symm] at hpb; cases hpb
    exact (hg.block b (hp_in hbw) hne).trans hbw
  have hown : ∀ g, Value.ownBlock (.slice S xs.length c) = some g → ∃ o, k1 g = some o := fun g e => by
    rcases x with ⟨rfl, _, _⟩ | ⟨g', cur, rfl, hg', _⟩
    · simp [Value.ownBlock] at e
    · have : g' = g := by simpa [Value.ownBlock] using e
      subst this
      exact ⟨_, hg'⟩
  have hBn : ∀ g, Value.ownBlock (.slice S xs.length c) = some g → B g = none := fun g e => by
    obtain ⟨o, ho⟩ := hown g e
    exact (d g).resolve_right (by rw [l1 _ _ ho]; simp)
  have h2n : ∀ g, Value.ownBlock (.slice S xs.length c) = some g → k2 g = none := fun g e => by
    obtain ⟨o, ho⟩ := hown g e
    exact (d12 g).resolve_left (by rw [ho]; simp)
  have lB := far B l hBn
  have l2' := far k2 (l2.trans m) h2n
  rcases hx with ⟨rfl, hz, rfl⟩ | ⟨g, cur, rfl, hgw, hr⟩
  · exact ⟨B, k2, d.le_right l2, lB, l2', hnil, k2, (Dj.nil _).symm, .nil _, .refl _, .inl ⟨rfl, hz, rfl⟩, y⟩
  · -- its block is none of the others'
    have hfree : ∀ p : Hp, Le p (hp w) → (∀ g, (Value.ownBlock (.slice S xs.length c)) = some g → p g = none) → p g = none := fun p lp hn => by
      rcases hb with e | e
      · exact hn g (by rw [← e]; rfl)
      · have : g = w.heap.size := by simpa [Value.ownBlock] using e
        subst this
        cases hpp : p w.heap.size with
        | none => rfl
        | some o => have := lp _ _ hpp; rw [hp_out w (Nat.le_refl _)] at this; cases this
    have d1 : ∀ p : Hp, p g = none → Dj p (one g (.cells cur e (0, 0))) := fun p hpn i => by
      by_cases e : i = g
      · subst e; exact .inl hpn
      · right; simp [one, e]
    have hBg := hfree B l hBn
    have h2g := hfree k2 (l2.trans m) h2n
    refine ⟨B, un k2 (one g (.cells cur e (0, 0))), Dj.un (d.le_right l2) (d1 B hBg), lB, Le.un l2' (.one hgw), one g (.cells cur e (0, 0)), k2, (d1 k2 h2g).symm, .un_right (d1 k2 h2g), .un_left _ _, ?_, y⟩
    exact .inr ⟨g, cur, rfl, one_same _ _, hr⟩
theorem run_append_nil {t e : TypeId} {s b : Nat} [at_ : ApTy P t e s b] {w : World} (base : Nat) (v : Value) (k : Nat) (cs : List Value) (ho : w.ownsRow base e s v k cs) (c : Nat) : (Builtin.append_ #[t, t] ty #[v, .slice none 0 c]).run P w = .ok v w := by
  obtain ⟨i, z, ht, hi, hz, h1, h2, h3⟩ := at_.ex
  rcases ho.2 with ⟨rfl, rfl⟩ | ⟨g, cap, cur, rfl, _, _, hnc, _⟩
  · simp [Builtin.append_, run_underlying ht, sizeOf, typeInfo, hi, Builtin.lenOf, Builtin.firstCells]
  · simp [Builtin.append_, run_underlying ht, sizeOf, typeInfo, hi, Builtin.lenOf, Builtin.firstCells, hnc, storeCells]
/-- 'append(s, t...)': s owned, t read. -/
theorem o_append {t e : TypeId} {s bytes c c2 len : Nat} {tys : Array TypeId} {M : List SProp} (hx : ev n ρ x = .slice S xs.length c) (hy : ev n ρ y = .slice S' len c2) (ht : tys = #[t, t]) [at_ : ApTy P t e s bytes] [en : EncLen enc sz] (hs : s = sz)
    [hr : HasRd L S' enc sz ys] (hlen : ys.length = len) (hn0 : len = 0 → S' = none ∨ True) [tk : Take1 L (osl e enc sz S c xs) M] (hmax : xs.length + ys.length ≤ maxLen) (hbytes : (xs.length + ys.length) * bytes ≤ 140737488355328)
    (h : ∀ S2 c3, G w0 A (osl e enc sz S2 c3 (xs ++ ys) :: M) (fun w => runL ro P all Q os (act n (updo ρ d (.slice S2 (xs.length + ys.length) c3)) ds) w)) :
    G w0 A L (fun w => runL ro P all Q ({ dst := d, op := .call { callee := .builtin .append, args := #[x, y], argTypes := tys }, type := ty, pos := pos, after := af, guard := none } :: os) (act n ρ ds) w) := by
  subst ht hs hlen
  refine o_run rfl fun w hw hh => ?_
  refine ⟨fun _ _ => trivial, ?_⟩
  rw [Oper.semAt_eq _ _ _ (by intro c e; cases e), act_eval]
  have hh1 : holds (star (osl e enc s S c xs) (star A (sl M))) w := (hh.ent ((Ent.refl A).star (sl_perm tk.perm))).ent (Ent.swap _ _ _)
  have hown := owns_of hh1
  have hrd := hr.sees.right w hh
  have hrun : ∃ v' w', (Builtin.append_ #[t, t] ty #[.slice S xs.length c, .slice S' ys.length c2]).run P w = .ok v' w' ∧ w'.ownsRow 0 e s v' (xs.length + ys.length) (xs.flatMap enc ++ ys.flatMap enc) ∧ w.grownBy w' (Value.ownBlock (.slice S xs.length c)) ∧
      (v'.ownBlock = Value.ownBlock (.slice S xs.length c) ∨ v'.ownBlock = some w.heap.size) := by
    obtain ⟨i, z, ht, hi, hz, h1, h2, h3⟩ := at_.ex
    have hone : ∀ u ∈ ys.flatMap enc, u.oneCell' = true := fun u hu => by
      obtain ⟨q, _, hq⟩ := List.mem_flatMap.1 hu
      exact en.one q u hq
    cases S' with
    | none =>
      have h0 : ys = [] := by
        cases ys with
        | nil => rfl
        | cons q qs =>
          obtain ⟨b, k, e, _⟩ := hrd 0 q rfl
          cases e
      subst h0
      exact ⟨_, w, run_append_nil 0 _ _ _ hown c2, by simpa using hown, World.grownBy.refl w _, .inl rfl⟩
    | some a =>
      obtain ⟨v', w', hrun, h4, h5, _, h6⟩ := run_append_own_at (P := P) w 0 t ty e i z s bytes ht hi hz h1 h2 h3 at_.pos _ _ _ hown a ys.length c2 (ys.flatMap enc) (flat_len ys) (fun j u hu => by
        -- which element, and which cell of it
        have hj : j < ys.length * s := by rw [← flat_len (enc := enc) ys]; exact (List.getElem?_eq_some_iff.1 hu).1
        have hsp : 0 < s := at_.pos
        have hq : j / s < ys.length := by rw [Nat.div_lt_iff_lt_mul hsp]; exact hj
        have hjm : j / s * s + j % s = j := by rw [Nat.mul_comm]; exact Nat.div_add_mod j s
        obtain ⟨b, k, ea, hc⟩ := hrd (j / s) ys[j / s] (List.getElem?_eq_getElem hq)
        cases ea
        have hm : j % s < (enc ys[j / s]).length := by rw [en.len]; exact Nat.mod_lt _ hsp
        have hu' := flat_get ys (j / s) (j % s) ys[j / s] _ (List.getElem?_eq_getElem hq) (List.getElem?_eq_getElem hm)
        rw [hjm, hu] at hu'
        have := hc (j % s) u (by rw [List.getElem?_eq_getElem hm]; exact hu'.symm)
        rw [hjm] at this
        rw [add_off]
        exact cell_of_cellH this) hone hmax hbytes (Nat.zero_le _)
      exact ⟨v', w', hrun, h4, h5, h6⟩
  obtain ⟨v', w', hrun, ho', hg, hb⟩ := hrun
  rw [← List.flatMap_append, ← List.length_append] at ho'
  obtain ⟨S2, c3, rfl, hh2⟩ := hh1.grown (zs := xs ++ ys) ho' hg hb
  have hex : (execOp (ev n ρ) { dst := d, op := .call { callee := .builtin .append, args := #[x, y], argTypes := #[t, t] }, type := ty, pos := pos, after := af, guard := none }).run P w = .ok (.value (.slice S2 (xs ++ ys).length c3)) w' := by
    simp only [execOp, resolve, List.map_toArray, List.map_cons, List.map_nil, hx, hy]
    simp [invoke, builtin, hrun]
  rw [hex]
  show runL ro P all Q os ((act n ρ ds).put d _) w'
  rw [act_put, List.length_append]
  refine h S2 c3 w' (hw.trans ⟨hg.os, hg.tape, hg.output, hg.size⟩) ?_
  exact hh2.ent (Ent.swap _ _ _)
/-- Nothing yet. -/
theorem G.nil_slice (e : TypeId) (enc : α → List Value) (sz : Nat) {Φ : World → Prop} (h : G w0 A (osl e enc sz none 0 [] :: L) Φ) : G w0 A L Φ :=
  G.ent (L := L) (L' := osl e enc sz none 0 [] :: L) (show Ent (sl L) (star (osl e enc sz none 0 []) (sl L)) from fun B k x => ⟨hnil, k, (Dj.nil _).symm, .nil _, .refl _, .inl ⟨rfl, rfl, rfl⟩, x⟩) h
/-- An owned row, given up. -/
theorem G.freeze_slice {e : TypeId} [en : EncLen enc sz] {c : Nat} {Φ : World → Prop} (h : G w0 A (psl enc sz S xs :: L) Φ) : G w0 A (osl e enc sz S c xs :: L) Φ := fun w hw hh => by
  refine h w hw ?_
  have hh1 := hh.ent (Ent.swap _ _ _)
  refine holds.ent ?_ (Ent.swap _ _ _)
  obtain ⟨B, k, d, l, m, k1, k2, d12, l1, l2, x, y⟩ := hh1
  have hrd := osl_rd x
  refine ⟨un B k1, k2, ?_, Le.un l (l1.trans m), l2.trans m, hnil, k2, (Dj.nil _).symm, .nil _, .refl _, ?_, (star A (sl L)).mono (.un_left _ _) (.refl _) y⟩
  · exact (Dj.un (d.le_right l2).symm d12.symm).symm
  · exact rdE.le hrd (Le.un_right (d.le_right l1))
theorem G.frz {e : TypeId} [en : EncLen enc sz] {c : Nat} {Φ : World → Prop} (h : G w0 A (psl enc sz S xs :: L) Φ) : G w0 A ([osl e enc sz S c xs] ++ L) Φ := G.freeze_slice h
/-- A new row off a literal. -/
theorem G.lit_slice {e : TypeId} {b : Nat} {cs : Array Value} [en : EncLen enc sz] (xs : List α) (hcs : cs.toList = xs.flatMap enc) (hm : xs.length ≤ maxLen) {Φ : World → Prop} (h : G w0 A (osl e enc sz (some ⟨b, 0, none⟩) xs.length xs :: L) Φ) : G w0 A (cellsB b cs e :: L) Φ :=
  G.ent (L := cellsB b cs e :: L) (L' := osl e enc sz (some ⟨b, 0, none⟩) xs.length xs :: L)
    ((show Ent (cellsB b cs e) (osl e enc sz (some ⟨b, 0, none⟩) xs.length xs) from fun _ k (x : k b = _) => .inr ⟨b, cs, rfl, x, Nat.le_refl _, hm, by rw [← Array.length_toList, hcs]; exact flat_len xs, by rw [hcs, ← flat_len (enc := enc) xs, List.take_length]⟩).star (Ent.refl (sl L))) h
end
end Go.Sl
