/- Parts of a proof, in order. -/
import Derived.Test.YtlognaddmbolgaaZBookPlays1
import Derived.Laws.MakeOwn

/- Symbols, elements, numbers among a law's arguments. -/
namespace Go.Proofs.Ytlognaddmbolgaa
open Go Go.Sl Go.RowKit Go.ChangeShapes Go.WideShapes Go.Deep

section
variable {H : Type} {enc : TypeId × Value → H} {W : World}
set_option maxRecDepth 100000 in
theorem cells_field {P : Program} {t ft : TypeId} {n i off sz : Nat} {cs : List Value} {x : DataW H × List MemPlace} (ht : P.underlying t = some (.struct (P.fieldsOf t))) (h : DataW.trod enc P W 0 (fun _ => true) true n t cs = some x)
    (hf : ((P.fieldsOf t)[i]?).map (fun f => (f.type, f.offset)) = some (ft, off)) (hsz : P.cellsOf ft = sz) : ∃ m y, DataW.trod enc P W 0 (fun _ => true) true m ft ((cs.drop off).take sz) = some y := by
  obtain ⟨xs, m, _, _, _, hlen, hg⟩ := DataW.trod_struct ht h
  cases hi : (P.fieldsOf t)[i]? with
  | none => rw [hi] at hf; cases hf
  | some f =>
    rw [hi] at hf
    cases hf
    subst hsz
    have hlt : i < xs.length := by rw [hlen]; exact (Array.getElem?_eq_some_iff.1 hi).1
    exact ⟨m, xs[i], (hg i f hi).trans (List.getElem?_eq_getElem hlt)⟩
set_option maxRecDepth 100000 in
theorem cells_length {P : Program} {t : TypeId} {n sz : Nat} {cs : List Value} {x : DataW H × List MemPlace} (ht : P.underlying t = some (.struct (P.fieldsOf t))) (h : DataW.trod enc P W 0 (fun _ => true) true n t cs = some x) (hsz : P.cellsOf t = sz) : cs.length = sz := by
  obtain ⟨_, _, _, _, hl, _⟩ := DataW.trod_struct ht h
  exact hl.trans hsz
set_option maxRecDepth 100000 in
theorem cells_int {n : Nat} {cs : List Value} {x : DataW H × List MemPlace} (h : DataW.trod enc Try.prog W 0 (fun _ => true) true n 3 cs = some x) : ∃ k, cs = [.int .i64 k] :=
  let ⟨k, h, _⟩ := DataW.trod_int (by kernel_rfl) h; ⟨k, h⟩
set_option maxRecDepth 100000 in
theorem cells_bool {n : Nat} {cs : List Value} {x : DataW H × List MemPlace} (h : DataW.trod enc Try.prog W 0 (fun _ => true) true n 4 cs = some x) : ∃ k, cs = [.bool k] :=
  let ⟨k, h, _⟩ := DataW.trod_bool (by kernel_rfl) h; ⟨k, h⟩
set_option maxRecDepth 100000 in
theorem cells_string {n : Nat} {cs : List Value} {x : DataW H × List MemPlace} (h : DataW.trod enc Try.prog W 0 (fun _ => true) true n 9 cs = some x) : ∃ k, cs = [.string k] :=
  let ⟨k, h, _⟩ := DataW.trod_string (by kernel_rfl) h; ⟨k, h⟩
set_option maxRecDepth 100000 in
theorem cells_sym {n : Nat} {cs : List Value} {x : DataW H × List MemPlace} (h : DataW.trod enc Try.prog W 0 (fun _ => true) true n 27 cs = some x) : ∃ s : SymD, cs = s.cells := by
  have hl := cells_length (sz := 3) (by kernel_rfl) h (by kernel_rfl)
  obtain ⟨m0, y0, f0⟩ := cells_field (i := 0) (ft := 3) (off := 0) (sz := 1) (by kernel_rfl) h (by kernel_rfl) (by kernel_rfl)
  obtain ⟨m1, y1, f1⟩ := cells_field (i := 1) (ft := 9) (off := 1) (sz := 1) (by kernel_rfl) h (by kernel_rfl) (by kernel_rfl)
  obtain ⟨m2, y2, f2⟩ := cells_field (i := 2) (ft := 3) (off := 2) (sz := 1) (by kernel_rfl) h (by kernel_rfl) (by kernel_rfl)
  obtain ⟨k0, g0⟩ := cells_int f0
  obtain ⟨k1, g1⟩ := cells_string f1
  obtain ⟨k2, g2⟩ := cells_int f2
  match cs, hl with
  | [c0, c1, c2], _ =>
    simp at g0 g1 g2
    subst g0; subst g1; subst g2
    exact ⟨⟨k0, k1, k2⟩, rfl⟩
set_option maxRecDepth 100000 in
theorem cells_elem {n : Nat} {cs : List Value} {x : DataW H × List MemPlace} (h : DataW.trod enc Try.prog W 0 (fun _ => true) true n 54 cs = some x) : ∃ e : ElemD, cs = e.val.cells.toList := by
  have hl := cells_length (sz := 12) (by kernel_rfl) h (by kernel_rfl)
  obtain ⟨m0, y0, f0⟩ := cells_field (i := 0) (ft := 27) (off := 0) (sz := 3) (by kernel_rfl) h (by kernel_rfl) (by kernel_rfl)
  obtain ⟨m1, y1, f1⟩ := cells_field (i := 1) (ft := 27) (off := 3) (sz := 3) (by kernel_rfl) h (by kernel_rfl) (by kernel_rfl)
  obtain ⟨m2, y2, f2⟩ := cells_field (i := 2) (ft := 27) (off := 6) (sz := 3) (by kernel_rfl) h (by kernel_rfl) (by kernel_rfl)
  obtain ⟨m3, y3, f3⟩ := cells_field (i := 3) (ft := 4) (off := 9) (sz := 1) (by kernel_rfl) h (by kernel_rfl) (by kernel_rfl)
  obtain ⟨m4, y4, f4⟩ := cells_field (i := 4) (ft := 4) (off := 10) (sz := 1) (by kernel_rfl) h (by kernel_rfl) (by kernel_rfl)
  obtain ⟨m5, y5, f5⟩ := cells_field (i := 5) (ft := 3) (off := 11) (sz := 1) (by kernel_rfl) h (by kernel_rfl) (by kernel_rfl)
  obtain ⟨k0, g0⟩ := cells_sym f0
  obtain ⟨k1, g1⟩ := cells_sym f1
  obtain ⟨k2, g2⟩ := cells_sym f2
  obtain ⟨k3, g3⟩ := cells_bool f3
  obtain ⟨k4, g4⟩ := cells_bool f4
  obtain ⟨k5, g5⟩ := cells_int f5
  match cs, hl with
  | [c0, c1, c2, c3, c4, c5, c6, c7, c8, c9, c10, c11], _ =>
    simp [SymD.cells] at g0 g1 g2 g3 g4 g5
    obtain ⟨rfl, rfl, rfl⟩ := g0
    obtain ⟨rfl, rfl, rfl⟩ := g1
    obtain ⟨rfl, rfl, rfl⟩ := g2
    subst g3; subst g4; subst g5
    exact ⟨⟨k0, k1, k2, k3, k4, k5⟩, rfl⟩
set_option maxRecDepth 100000 in
theorem cells_encI {n : Nat} {cs : List Value} {x : DataW H × List MemPlace} (h : DataW.trod enc Try.prog W 0 (fun _ => true) true n 3 cs = some x) : ∃ k : Int, cs = encI k := cells_int h
set_option maxRecDepth 100000 in
theorem cells_encE {n : Nat} {cs : List Value} {x : DataW H × List MemPlace} (h : DataW.trod enc Try.prog W 0 (fun _ => true) true n 54 cs = some x) : ∃ e : ElemD, cs = encE e := cells_elem h
set_option maxRecDepth 100000 in
theorem open_elem {v : Value} {d : DataW H} {ps : List MemPlace} {b0 : Nat} (hv : Value.okWide Try.prog W .any b0 54 v) (h : DataW.Trod enc Try.prog W 0 (fun _ => true) true 54 v d ps) : ∃ e : ElemD, v = e.val := by
  obtain ⟨cs, rfl, _⟩ := okWide_struct (fs := Try.prog.fieldsOf 54) (by kernel_rfl) hv
  obtain ⟨n, hn⟩ := h
  obtain ⟨e, he⟩ := cells_elem hn
  exact ⟨e, by rw [show cs = e.val.cells from Array.toList_inj.1 he]; rfl⟩
set_option maxRecDepth 100000 in
theorem open_sym {v : Value} {d : DataW H} {ps : List MemPlace} {b0 : Nat} (hv : Value.okWide Try.prog W .any b0 27 v) (h : DataW.Trod enc Try.prog W 0 (fun _ => true) true 27 v d ps) : ∃ s : SymD, v = s.val := by
  obtain ⟨cs, rfl, _⟩ := okWide_struct (fs := Try.prog.fieldsOf 27) (by kernel_rfl) hv
  obtain ⟨n, hn⟩ := h
  obtain ⟨e, he⟩ := cells_sym hn
  exact ⟨e, by rw [show cs = e.val.cells from Array.toList_inj.1 he]; rfl⟩
end
end Go.Proofs.Ytlognaddmbolgaa
/- Owned rows: stores into them, a shorter view of them, new ones; ordered sets as one assertion. Plain library, no program in sight. -/
namespace Go.Sl
open Go Go.Proofs Go.RowKit

section
variable {α : Type} {enc : α → List Value} {sz : Nat}
theorem flat_take [e : EncLen enc sz] : ∀ (ys : List α) (i : Nat), (ys.flatMap enc).take (i * sz) = (ys.take i).flatMap enc
  | [], i => by simp
  | y :: ys, 0 => by simp
  | y :: ys, i + 1 => by
    have h1 : (enc y).length = sz := e.len y
    have : (i + 1) * sz = (enc y).length + i * sz := by rw [h1, Nat.add_mul]; omega
    rw [List.flatMap_cons, this, List.take_length_add_append, flat_take ys i]
    simp
theorem flat_drop [e : EncLen enc sz] : ∀ (ys : List α) (i : Nat), (ys.flatMap enc).drop (i * sz) = (ys.drop i).flatMap enc
  | [], i => by simp
  | y :: ys, 0 => by simp
  | y :: ys, i + 1 => by
    have h1 : (enc y).length = sz := e.len y
    have : (i + 1) * sz = (enc y).length + i * sz := by rw [h1, Nat.add_mul]; omega
    rw [List.flatMap_cons, this, List.drop_length_add_append, flat_drop ys i]
    simp
theorem flat_set [e : EncLen enc sz] (ys : List α) (i : Nat) (z : α) (hi : i < ys.length) : (ys.set i z).flatMap enc = (ys.flatMap enc).take (i * sz) ++ enc z ++ (ys.flatMap enc).drop ((i + 1) * sz) := by
  rw [flat_take, flat_drop, List.set_eq_take_append_cons_drop, if_pos hi]
  simp [List.flatMap_append]
end

section
variable {w0 : World} {A : SProp} {L : List SProp} {ro : Option Nat} {P : Program} {Q : Exit → Act → World → Prop} {all : Array Oper} {os : List Oper} {n : Nat} {ρ : Nat → Value} {ds : List Nat}
variable {d : Option Tmp} {ty : TypeId} {pos : String} {af : Array Edge} {x y : Operand}
variable {α : Type} {enc : α → List Value} {sz : Nat} {xs : List α} {S : Option Addr}
/-- A store of a whole element into an owned row. -/
theorem o_storeE {t e : TypeId} {sz' c i : Nat} {v : Value} {z : α} {M : List SProp} (hx : ev n ρ x = padr S (i * sz)) (hy : ev n ρ y = v) [tk : Take1 L (osl e enc sz S c xs) M] [el : EncLen enc sz] [ts : TySz P t sz'] (hs : sz' = sz) (hv : v.cells.toList = enc z) (hi : i < xs.length)
    (h : G w0 A (osl e enc sz S c (xs.set i z) :: M) (fun w => runL ro P all Q os (act n (updo ρ d undef) ds) w)) :
    G w0 A L (fun w => runL ro P all Q ({ dst := d, op := .store t x y, type := ty, pos := pos, after := af, guard := none } :: os) (act n ρ ds) w) := by
  subst hs
  refine o_run rfl fun w hw hh => ?_
  refine ⟨fun _ _ => trivial, ?_⟩
  rw [Oper.semAt_eq _ _ _ (by intro c e; cases e), act_eval]
  have hh1 : holds (star (osl e enc sz' S c xs) (star A (sl M))) w := (hh.ent ((Ent.refl A).star (sl_perm tk.perm))).ent (Ent.swap _ _ _)
  have hopen : ∃ g cur, S = some ⟨g, 0, none⟩ ∧ (xs.length ≤ c ∧ c ≤ maxLen ∧ cur.size = c * sz' ∧ cur.toList.take (xs.length * sz') = xs.flatMap enc) ∧ holds (star (blk g (.cells cur e (0, 0))) (star A (sl M))) w := by
    obtain ⟨B, k, dd, l, m, k1, k2, d12, l1, l2, hx, hy⟩ := hh1
    rcases hx with ⟨_, rfl, _⟩ | ⟨g, cur, hA, hg, hr⟩
    · simp at hi
    · exact ⟨g, cur, hA, hr, B, k, dd, l, m, k1, k2, d12, l1, l2, hg, hy⟩
  obtain ⟨g, cur, rfl, ⟨h1, h2, h3, h4⟩, hh2⟩ := hopen
  have hbw : w.heap[g]? = some (.cells cur e (0, 0)) := (Sees.left (sees_blk g _)) w hh2
  have hvl : v.cells.toList.length = sz' := by rw [hv]; exact el.len z
  have hvs : v.cells.size = sz' := by rw [← Array.length_toList]; exact hvl
  have hle : i * sz' + sz' ≤ cur.size := by
    rw [h3]
    calc i * sz' + sz' = (i + 1) * sz' := by rw [Nat.add_mul]; omega
      _ ≤ c * sz' := Nat.mul_le_mul_right _ (by omega)
  have hst := run_storeCells_at (P := P) g (i * sz') e v.cells.toList 0 cur w hbw (by rw [hvl]; simpa using hle) (by rw [hv]; exact el.one z)
  have hpa : padr (some ⟨g, 0, none⟩) (i * sz') = .pointer (some ⟨g, i * sz', none⟩) := by rw [padr_some]; simp
  have hrun : (execOp (ev n ρ) { dst := d, op := .store t x y, type := ty, pos := pos, after := af, guard := none }).run P w = .ok .skip (w.setRow g (sto cur (i * sz') v.cells)) := by
    simp only [execOp, hx, hy, hpa]
    simp [Instr.storeAt, Instr.sureAddr, storeVar, ts.size, hvs, hst, sto]
  rw [hrun]
  show runL ro P all Q os ((act n ρ ds).put d undef) _
  rw [act_put]
  refine h _ (hw.trans (std_setRow _ _ _)) ?_
  have hh3 := hh2.update (o' := .cells (sto cur (i * sz') v.cells) e (0, 0)) (setRow_heap w g cur _ e _ hbw) (fun j hj => hp_setRow_ne w _ hj)
  have hsize : (sto cur (i * sz') v.cells).toList = cur.toList.take (i * sz') ++ enc z ++ cur.toList.drop ((i + 1) * sz') := by
    simp only [sto, hvl]
    rw [hv, show (i + 1) * sz' = i * sz' + sz' by rw [Nat.add_mul]; omega]
  have hcl : cur.toList.length = c * sz' := by rw [Array.length_toList, h3]
  refine (hh3.ent (Ent.star ?_ (Ent.refl _))).ent (Ent.swap _ _ _)
  intro B k hk
  refine .inr ⟨g, _, rfl, hk, by simpa using h1, h2, ?_, ?_⟩
  · rw [← Array.length_toList, hsize]
    have := el.len z
    simp only [List.length_append, List.length_take, List.length_drop, hcl, this]
    have h5 : (i + 1) * sz' ≤ c * sz' := Nat.mul_le_mul_right _ (by omega)
    have h6 : (i + 1) * sz' = i * sz' + sz' := by rw [Nat.add_mul]; omega
    omega
  · rw [hsize, List.length_set, flat_set xs i z hi, ← h4]
    have h5 : (i + 1) * sz' ≤ xs.length * sz' := Nat.mul_le_mul_right _ hi
    have h6 : (i + 1) * sz' = i * sz' + sz' := by rw [Nat.add_mul]; omega
    have h7 : xs.length * sz' ≤ cur.toList.length := by rw [hcl]; exact Nat.mul_le_mul_right _ h1
    have hl1 : (cur.toList.take (i * sz') ++ enc z).length = (i + 1) * sz' := by
      simp only [List.length_append, List.length_take, el.len]; omega
    rw [List.take_take, Nat.min_eq_left (by omega), List.drop_take]
    conv => lhs; rw [show xs.length * sz' = (cur.toList.take (i * sz') ++ enc z).length + (xs.length * sz' - (i + 1) * sz') by rw [hl1]; omega]
    rw [List.take_length_add_append]
theorem osl_take {e : TypeId} [el : EncLen enc sz] {c k : Nat} (hk : k ≤ xs.length) : Ent (osl e enc sz S c xs) (osl e enc sz S c (xs.take k)) := by
  rintro B h (⟨hA, rfl, hc⟩ | ⟨g, cur, hA, hg, h1, h2, h3, h4⟩)
  · exact .inl ⟨hA, by simp, hc⟩
  · refine .inr ⟨g, cur, hA, hg, by simp; omega, h2, h3, ?_⟩
    rw [List.length_take, Nat.min_eq_left hk, ← flat_take, ← h4, List.take_take, Nat.min_eq_left (Nat.mul_le_mul_right _ hk)]
/-- An owned row grows no shorter than its room. -/
theorem osl_room {e : TypeId} {c : Nat} {C : SProp} {w : World} (h : holds (star (osl e enc sz S c xs) C) w) : xs.length ≤ c := by
  obtain ⟨_, _, _, _, _, _, _, _, _, _, x, _⟩ := h
  rcases x with ⟨_, rfl, rfl⟩ | ⟨_, _, _, _, h1, _⟩
  · exact Nat.le_refl _
  · exact h1
/-- 's[:k]' of an owned row. -/
theorem o_upto {t e : TypeId} {sz' c len k : Nat} {kd : IntKind} {m : Int} {M : List SProp} (hx : ev n ρ x = .slice S len c) (hy : ev n ρ y = .int kd m) (hm : m = (k : Int)) [tk : Take1 L (osl e enc sz S c xs) M] [el : EncLen enc sz] [st : SlTy P t e sz'] (hl : xs.length = len) (hk : k ≤ len)
    (h : G w0 A (osl e enc sz S c (xs.take k) :: M) (fun w => runL ro P all Q os (act n (updo ρ d (.slice S k c)) ds) w)) :
    G w0 A L (fun w => runL ro P all Q ({ dst := d, op := .slice t x none (some y) none, type := ty, pos := pos, after := af, guard := none } :: os) (act n ρ ds) w) := by
  subst hl hm
  have hh1 : ∀ w, holds (star A (sl L)) w → xs.length ≤ c := fun w hh => osl_room ((hh.ent ((Ent.refl A).star (sl_perm tk.perm))).ent (Ent.swap _ _ _))
  refine o_val (v := .slice S k c) rfl (by intro c e; cases e) (fun w hw hh => ?_) ?_
  · simp only [execOp]
    refine run_v ?_
    have hc := hh1 w hh
    have hkc : (k : Int) ≤ (c : Int) := by omega
    simp only [Option.map_none, Option.map_some, hx, hy]
    simp [Instr.sliceAt, Instr.slice, run_underlying st.ty, Instr.sliceBounds, Instr.sliceBound, asIntOf, st.size, hkc]
    have hkn : k ≤ c := by omega
    cases S <;> simp [Addr.add] <;> intro hck <;> exact absurd hck (by omega)
  · exact G.perm tk.perm (G.ent (L := osl e enc sz S c xs :: M) (L' := osl e enc sz S c (xs.take k) :: M) ((osl_take hk).star (Ent.refl _)) h)
theorem o_uptoR {t e : TypeId} {sz' c len k : Nat} {kd : IntKind} {m : Int} {M : List SProp} (hx : ev n ρ x = .slice S len c) (hy : ev n ρ y = .int kd m) (hm : m = (k : Int)) [tk : Take1 L (osl e enc sz S c xs) M] [st : SlTy P t e sz'] (hl : xs.length = len) (hk : k ≤ len)
    (h : G w0 A L (fun w => runL ro P all Q os (act n (updo ρ d (.slice S k c)) ds) w)) :
    G w0 A L (fun w => runL ro P all Q ({ dst := d, op := .slice t x none (some y) none, type := ty, pos := pos, after := af, guard := none } :: os) (act n ρ ds) w) := by
  subst hl hm
  have hh1 : ∀ w, holds (star A (sl L)) w → xs.length ≤ c := fun w hh => osl_room ((hh.ent ((Ent.refl A).star (sl_perm tk.perm))).ent (Ent.swap _ _ _))
  refine o_val (v := .slice S k c) rfl (by intro c e; cases e) (fun w hw hh => ?_) h
  simp only [execOp]
  refine run_v ?_
  have hc := hh1 w hh
  have hkc : (k : Int) ≤ (c : Int) := by omega
  simp only [Option.map_none, Option.map_some, hx, hy]
  simp [Instr.sliceAt, Instr.slice, run_underlying st.ty, Instr.sliceBounds, Instr.sliceBound, asIntOf, st.size, hkc]
  have hkn : k ≤ c := by omega
  cases S <;> simp [Addr.add] <;> intro hck <;> exact absurd hck (by omega)
theorem G.shorten {e : TypeId} [el : EncLen enc sz] {c : Nat} (k : Nat) {M : List SProp} {Φ : World → Prop} [tk : Take1 L (osl e enc sz S c xs) M] (hk : k ≤ xs.length) (h : G w0 A (osl e enc sz S c (xs.take k) :: M) Φ) : G w0 A L Φ :=
  G.perm tk.perm (G.ent (L := osl e enc sz S c xs :: M) (L' := osl e enc sz S c (xs.take k) :: M) ((osl_take hk).star (Ent.refl _)) h)
/-- 'make([]T, 0, c)'. -/
theorem o_make0 {t e : TypeId} {s bytes c : Nat} {kl kc : IntKind} {m : Int} (hx : ev n ρ x = .int kl 0) (hy : ev n ρ y = .int kc m) (hm : m = (c : Int)) [at_ : ApTy P t e s bytes] [en : EncLen enc s] (hb : bytes * c ≤ 281474976710656) (hc : c ≤ maxLen)
    (h : ∀ S, G w0 A (osl e enc s S c ([] : List α) :: L) (fun w => runL ro P all Q os (act n (updo ρ d (.slice S 0 c)) ds) w)) :
    G w0 A L (fun w => runL ro P all Q ({ dst := d, op := .makeSlice t x y, type := ty, pos := pos, after := af, guard := none } :: os) (act n ρ ds) w) := by
  subst hm
  refine o_run rfl fun w hw hh => ?_
  refine ⟨fun _ _ => trivial, ?_⟩
  rw [Oper.semAt_eq _ _ _ (by intro c e; cases e), act_eval]
  obtain ⟨i, z, ht, hi, hz, h1, h2, h3⟩ := at_.ex
  obtain ⟨w', hrun, ho, hg⟩ := run_make_own (P := P) w 0 t e i z s ht hi hz h1 kl kc c (by rw [h2]; exact hb) hc (Nat.zero_le _)
  have hh1 : holds (star (osl e enc s none 0 ([] : List α)) (star A (sl L))) w := by
    obtain ⟨B, k, dd, l, m, x⟩ := hh
    exact ⟨B, k, dd, l, m, hnil, k, (Dj.nil _).symm, .nil _, .refl _, .inl ⟨rfl, rfl, rfl⟩, x⟩
  obtain ⟨S2, c3, he, hh2⟩ := hh1.grown (zs := ([] : List α)) ho (by simpa [Value.ownBlock] using hg) (.inr rfl)
  simp only [Value.slice.injEq, List.length_nil, true_and] at he
  obtain ⟨rfl, rfl⟩ := he
  have hex : (execOp (ev n ρ) { dst := d, op := .makeSlice t x y, type := ty, pos := pos, after := af, guard := none }).run P w = .ok (.value (.slice (some ⟨w.heap.size, 0, none⟩) 0 c)) w' := by
    simp only [execOp, hx, hy]
    simp [hrun]
  rw [hex]
  show runL ro P all Q os ((act n ρ ds).put d _) w'
  rw [act_put]
  exact h _ w' (hw.trans ⟨hg.os, hg.tape, hg.output, hg.size⟩) (hh2.ent (Ent.swap _ _ _))

/-- 'append' to an empty owned row. -/
theorem o_append0 {t e : TypeId} {s bytes c c2 len : Nat} {ys : List α} {S' : Option Addr} {tys : Array TypeId} {M : List SProp} (hx : ev n ρ x = .slice S 0 c) (hy : ev n ρ y = .slice S' len c2) (ht : tys = #[t, t]) [at_ : ApTy P t e s bytes] [en : EncLen enc sz] (hs : s = sz)
    [hr : HasRd L S' enc sz ys] (hlen : ys.length = len) [tk : Take1 L (osl e enc sz S c ([] : List α)) M] (hmax : ys.length ≤ maxLen) (hbytes : ys.length * bytes ≤ 140737488355328)
    (h : ∀ S2 c3, G w0 A (osl e enc sz S2 c3 ys :: M) (fun w => runL ro P all Q os (act n (updo ρ d (.slice S2 len c3)) ds) w)) :
    G w0 A L (fun w => runL ro P all Q ({ dst := d, op := .call { callee := .builtin .append, args := #[x, y], argTypes := tys }, type := ty, pos := pos, after := af, guard := none } :: os) (act n ρ ds) w) :=
  o_append (xs := ([] : List α)) hx hy ht hs hlen (fun _ => .inr trivial) (by simpa using hmax) (by simpa using hbytes) fun S2 c3 => by
    have := h S2 c3
    rw [← hlen] at this
    simpa using this
/-- A function held against nil. -/
theorem o_fnil {xt yt : TypeId} {fn : Fn} {a c : Array Value} (hx : ev n ρ x = .func fn a c) (hg : ∀ w, (eqGuard .eql xt x (.const .nilFunc) (.func fn a c) .nilFunc).run P w = .ok () w) (hr : ∀ w, (binOp .eql xt (.func fn a c) .nilFunc).run P w = .ok (.bool false) w)
    (h : G w0 A L (fun w => runL ro P all Q os (act n (updo ρ d (.bool false)) ds) w)) :
    G w0 A L (fun w => runL ro P all Q ({ dst := d, op := .binOp .eql xt x (.const .nilFunc) yt, type := ty, pos := pos, after := af, guard := none } :: os) (act n ρ ds) w) :=
  o_val rfl (by intro c e; cases e) (fun w _ _ => run_bin (by rw [hx]; exact hg w) (by rw [hx]; exact hr w)) h
/-- What a block holds, written otherwise. -/
theorem G.norm (b : Nat) (cs' : Array Value) {e : TypeId} {cs : Array Value} {f : Obj → List SProp} {Φ : World → Prop} [rb : RepBlk L b (.cells cs e (0, 0)) f] (hc : cs = cs') (h : G w0 A (f (.cells cs' e (0, 0))) Φ) : G w0 A L Φ := by
  subst hc
  obtain ⟨M, p, q⟩ := rb.perm
  exact G.perm (p.trans (q _).symm) h

/-! ### Ordered sets -/
/-- A row, owned, or seen by somebody: then it stays for ever. -/
def row (e : TypeId) (enc : α → List Value) (sz : Nat) (b : Bool) (S : Option Addr) (c : Nat) (ys : List α) : SProp := cond b (psl enc sz S ys) (osl e enc sz S c ys)
instance {e : TypeId} {b : Bool} {c : Nat} {ys : List α} [EncLen enc sz] : HasRd (row e enc sz b S c ys :: L) S enc sz ys := ⟨by
  cases b
  · exact (HasRd.ohead (L := L) (A := S) (e := e) (c := c) (ys := ys)).sees
  · exact (HasRd.head (L := L) (A := S) (ys := ys)).sees⟩
theorem G.see {e : TypeId} {b : Bool} {c : Nat} {ys : List α} {Φ : World → Prop} [EncLen enc sz] (h : G w0 A (psl enc sz S ys :: L) Φ) : G w0 A (row e enc sz b S c ys :: L) Φ := by
  cases b
  · exact G.freeze_slice h
  · exact h
theorem G.pu_in {q : Prop} {Φ : World → Prop} (hq : q) (h : G w0 A (Sl.pu q :: L) Φ) : G w0 A L Φ :=
  G.ent (L := L) (L' := Sl.pu q :: L) (show Ent (sl L) (star (Sl.pu q) (sl L)) from fun _ k x => ⟨hnil, k, (Dj.nil _).symm, .nil _, .refl _, hq, x⟩) h
theorem Take.setback {X Y : SProp} {L M : List SProp} [tk : Take1 L X M] : Take (X :: Y :: M) (Y :: L) [] := ⟨by rw [List.append_nil]; exact (List.Perm.swap _ _ _).trans (tk.perm.symm.cons Y)⟩
theorem G.see1 {e : TypeId} {b : Bool} {c : Nat} {ys : List α} {Φ : World → Prop} [EncLen enc sz] (h : G w0 A (psl enc sz S ys :: L) Φ) : G w0 A ([row e enc sz b S c ys] ++ L) Φ := G.see h
/-- A set at p whose members are these: its list, and whether the list is seen. -/
def SetP (st e : TypeId) (enc : α → List Value) (sz : Nat) (p : Nat) (ys : List α) : SProp :=
  ex fun r : Option Addr × Nat × Bool => sl [cellsB p #[.slice r.1 ys.length r.2.1, .bool r.2.2] st, row e enc sz r.2.2 r.1 r.2.1 ys]
variable {st e : TypeId} {p : Nat} {ys : List α} {M : List SProp} {Φ : World → Prop}
theorem SetP.open [tk : Take1 L (SetP st e enc sz p ys) M] (h : ∀ S c b, G w0 A (cellsB p #[.slice S ys.length c, .bool b] st :: row e enc sz b S c ys :: M) Φ) : G w0 A L Φ :=
  G.perm tk.perm (G.ex fun ⟨S, c, b⟩ => G.open_sl (h S c b))
theorem SetP.shut {S : Option Addr} {c : Nat} {b : Bool} {len : Nat} (hl : ys.length = len) [tk : Take L [cellsB p #[.slice S len c, .bool b] st, row e enc sz b S c ys] M] (h : G w0 A (SetP st e enc sz p ys :: M) Φ) : G w0 A L Φ := by
  subst hl
  refine G.perm tk.perm (G.ent ?_ h)
  refine (sl_append_to _ M).trans (Ent.star ?_ (Ent.refl _))
  exact fun B k x => ⟨(S, c, b), x⟩
end
end Go.Sl
/- Comparisons as linear orders, plainly; and the program's comparisons. -/
namespace Go.Proofs.Ytlognaddmbolgaa
open Go Go.Sl
attribute [local irreducible] Code.wpIn roundPost bodyPostM runL Ret Meets Begin

/-- A comparison that orders. -/
structure LinCmp {α : Type} (f : α → α → Int) : Prop where
  swap : ∀ a b, f b a = - f a b
  trans : ∀ a b c, f a b < 0 → f b c < 0 → f a c < 0
  eqv : ∀ a b c, f a b = 0 → f a c = f b c
theorem LinCmp.refl {α : Type} {f : α → α → Int} (h : LinCmp f) (a : α) : f a a = 0 := by have := h.swap a a; omega
theorem LinCmp.eqv' {α : Type} {f : α → α → Int} (h : LinCmp f) (a b c : α) (e : f a b = 0) : f c a = f c b := by
  rw [h.swap a c, h.swap b c, h.eqv a b c e]
theorem LinCmp.pull {α β : Type} {f : α → α → Int} (h : LinCmp f) (g : β → α) : LinCmp (fun x y => f (g x) (g y)) :=
  ⟨fun a b => h.swap _ _, fun a b c => h.trans _ _ _, fun a b c => h.eqv _ _ _⟩
def lex {α : Type} (f g : α → α → Int) (a b : α) : Int := if f a b = 0 then g a b else f a b
theorem LinCmp.lex {α : Type} {f g : α → α → Int} (hf : LinCmp f) (hg : LinCmp g) : LinCmp (lex f g) := by
  refine ⟨fun a b => ?_, fun a b c h1 h2 => ?_, fun a b c h => ?_⟩
  · unfold Proofs.Ytlognaddmbolgaa.lex
    rw [hf.swap a b, hg.swap a b]
    by_cases e : f a b = 0
    · simp [e]
    · rw [if_neg e, if_neg (by omega)]
  · unfold Proofs.Ytlognaddmbolgaa.lex at *
    by_cases e1 : f a b = 0
    · rw [if_pos e1] at h1
      rw [hf.eqv a b c e1]
      by_cases e2 : f b c = 0
      · rw [if_pos e2] at h2 ⊢; exact hg.trans a b c h1 h2
      · rw [if_neg e2] at h2 ⊢; exact h2
    · rw [if_neg e1] at h1
      by_cases e2 : f b c = 0
      · have : f a c = f a b := (hf.eqv' b c a e2).symm
        rw [this, if_neg e1]; exact h1
      · rw [if_neg e2] at h2
        have := hf.trans a b c h1 h2
        rw [if_neg (by omega)]; exact this
  · unfold Proofs.Ytlognaddmbolgaa.lex at *
    by_cases e1 : f a b = 0
    · rw [if_pos e1] at h
      rw [hf.eqv a b c e1, hg.eqv a b c h]
    · rw [if_neg e1] at h; exact absurd h e1
def cmpI (a b : Int) : Int := if a < b then -1 else if b < a then 1 else 0
theorem linI : LinCmp cmpI := by
  refine ⟨fun a b => ?_, fun a b c => ?_, fun a b c => ?_⟩ <;> unfold cmpI <;> (repeat' split) <;> omega
theorem less_cons (x y : UInt8) (a b : List UInt8) : Op.bytesLess (x :: a) (y :: b) = true ↔ x.toNat < y.toNat ∨ (x.toNat = y.toNat ∧ Op.bytesLess a b = true) := by
  simp only [Op.bytesLess, Bool.or_eq_true, Bool.and_eq_true, decide_eq_true_eq, beq_iff_eq, UInt8.lt_iff_toNat_lt, ← UInt8.toNat_inj]
theorem less_asym : ∀ a b : List UInt8, Op.bytesLess a b = true → ¬ Op.bytesLess b a = true
  | [], [], h => by simp [Op.bytesLess] at h
  | [], _ :: _, _ => by simp [Op.bytesLess]
  | _ :: _, [], h => by simp [Op.bytesLess] at h
  | x :: a, y :: b, h => by
    rw [less_cons] at h ⊢
    have ih := less_asym a b
    rintro (h2 | ⟨h2, h3⟩)
    · rcases h with h | ⟨h, _⟩ <;> omega
    · rcases h with h | ⟨_, h⟩
      · omega
      · exact ih h h3
theorem less_trans : ∀ a b c : List UInt8, Op.bytesLess a b = true → Op.bytesLess b c = true → Op.bytesLess a c = true
  | _, _, [], _, h => by cases ‹List UInt8› <;> simp [Op.bytesLess] at h
  | _, [], _ :: _, h, _ => by cases ‹List UInt8› <;> simp [Op.bytesLess] at h
  | [], _ :: _, _ :: _, _, _ => by simp [Op.bytesLess]
  | x :: a, y :: b, z :: c, h1, h2 => by
    rw [less_cons] at h1 h2 ⊢
    rcases h1 with h1 | ⟨h1, h1'⟩ <;> rcases h2 with h2 | ⟨h2, h2'⟩
    · left; omega
    · left; omega
    · left; omega
    · right; exact ⟨by omega, less_trans a b c h1' h2'⟩
theorem less_total : ∀ a b : List UInt8, ¬ Op.bytesLess a b = true → ¬ Op.bytesLess b a = true → a = b
  | [], [], _, _ => rfl
  | [], _ :: _, h, _ => by simp [Op.bytesLess] at h
  | _ :: _, [], _, h => by simp [Op.bytesLess] at h
  | x :: a, y :: b, h1, h2 => by
    rw [less_cons] at h1 h2
    have hxy : x.toNat = y.toNat := by
      have : ¬ x.toNat < y.toNat := fun h => h1 (.inl h)
      have : ¬ y.toNat < x.toNat := fun h => h2 (.inl h)
      omega
    rw [UInt8.toNat_inj.1 hxy, less_total a b (fun h => h1 (.inr ⟨hxy, h⟩)) (fun h => h2 (.inr ⟨hxy.symm, h⟩))]
def cmpS (a b : ByteArray) : Int := if Op.bytesLess a.toList b.toList = true then -1 else if Op.bytesLess b.toList a.toList = true then 1 else 0
theorem cmpS_zero {a b : ByteArray} (h : cmpS a b = 0) : a = b := by
  unfold cmpS at h
  by_cases h1 : Op.bytesLess a.toList b.toList = true
  · rw [if_pos h1] at h; omega
  · rw [if_neg h1] at h
    by_cases h2 : Op.bytesLess b.toList a.toList = true
    · rw [if_pos h2] at h; omega
    · exact (toList_inj a b).1 (less_total _ _ h1 h2)
theorem linS : LinCmp cmpS := by
  refine ⟨fun a b => ?_, fun a b c h1 h2 => ?_, fun a b c h => by rw [cmpS_zero h]⟩
  · unfold cmpS
    have := less_asym a.toList b.toList
    by_cases h1 : Op.bytesLess a.toList b.toList = true
    · simp [h1, this h1]
    · by_cases h2 : Op.bytesLess b.toList a.toList = true <;> simp [h1, h2]
  · have key : ∀ x y, cmpS x y < 0 ↔ Op.bytesLess x.toList y.toList = true := fun x y => by
      unfold cmpS
      by_cases h1 : Op.bytesLess x.toList y.toList = true
      · simp [h1]
      · by_cases h2 : Op.bytesLess y.toList x.toList = true <;> simp [h1, h2]
    rw [key] at h1 h2 ⊢
    exact less_trans _ _ _ h1 h2
def SymD.cmp : SymD → SymD → Int := lex (fun a b => cmpI a.kind b.kind) (lex (fun a b => cmpS a.text b.text) (fun a b => cmpI a.n b.n))
theorem linSym : LinCmp SymD.cmp := (linI.pull SymD.kind).lex ((linS.pull SymD.text).lex (linI.pull SymD.n))
theorem cmpI_zero {a b : Int} (h : cmpI a b = 0) : a = b := by unfold cmpI at h; (repeat' split at h) <;> omega
theorem SymD.cmp_zero {a b : SymD} (h : a.cmp b = 0) : a = b := by
  obtain ⟨k, t, n⟩ := a
  obtain ⟨k', t', n'⟩ := b
  simp only [SymD.cmp, lex] at h
  by_cases h1 : cmpI k k' = 0
  · rw [if_pos h1] at h
    by_cases h2 : cmpS t t' = 0
    · rw [if_pos h2] at h
      rw [cmpI_zero h1, cmpS_zero h2, cmpI_zero h]
    · rw [if_neg h2] at h; exact absurd h h2
  · rw [if_neg h1] at h; exact absurd h h1

/-! ### The program's comparisons -/
theorem o_sgtr {w0 : World} {A : SProp} {L : List SProp} {ro : Option Nat} {P : Program} {Q : Exit → Act → World → Prop} {all : Array Oper} {os : List Oper} {n : Nat} {ρ : Nat → Value} {ds : List Nat} {d : Option Tmp} {ty xt yt : TypeId} {pos : String} {af : Array Edge} {x y : Operand}
    {s t : ByteArray} (hx : ev n ρ x = .string s) (hy : ev n ρ y = .string t) (h : G w0 A L (fun w => runL ro P all Q os (act n (updo ρ d (.bool (Op.bytesLess t.toList s.toList))) ds) w)) :
    G w0 A L (fun w => runL ro P all Q ({ dst := d, op := .binOp .gtr xt x y yt, type := ty, pos := pos, after := af, guard := none } :: os) (act n ρ ds) w) := by
  refine o_val (v := .bool (Op.bytesLess t.toList s.toList)) rfl (by intro c e; cases e) (fun w _ _ => run_bin (by rw [hx, hy]; rfl) ?_) h
  rw [hx, hy]
  have : Op.bytesLess t.toList s.toList = (!(Op.bytesLess s.toList t.toList || (s.toList == t.toList))) := by
    cases h1 : Op.bytesLess s.toList t.toList
    · cases h2 : Op.bytesLess t.toList s.toList
      · have := less_total s.toList t.toList (by simp [h1]) (by simp [h2]); simp [this]
      · have : s.toList ≠ t.toList := fun e => by rw [e] at h2; exact less_asym _ _ h2 h2
        simp [this]
    · have := less_asym _ _ h1
      simp only [Bool.true_or, Bool.not_true]
      simpa using this
  rw [this]
  rfl
theorem isNaNI_spec (a : Int) : Ctr Try.prog 117 [.int .i64 a] [] (fun v M => v = .bool false ∧ M = []) := by
  refine spec_of Try.func117 rfl Try.ntmps117 rfl fun w0 F => ?_
  repeat (first | refine g_endt ?_ | refine g_end ?_ | refine g_then ?_ | refine g_in_normal ?_ | refine g_then_ret ?_ | refine g_in_ret ?_ | refine g_then_exit ?_ | refine g_in_exit rfl ?_ | refine g_in_exit_ne (by decide) ?_ | refine g_seq ?_ | refine g_region ?_ | refine g_block ?_ | refine g_ret ?_ | refine g_return_n ?_ | refine g_exit ?_ | refine g_skip ?_)
  refine o_assign ?_
  first | refine g_endt ?_ | refine g_end ?_
  repeat (first | refine g_endt ?_ | refine g_end ?_ | refine g_then ?_ | refine g_in_normal ?_ | refine g_then_ret ?_ | refine g_in_ret ?_ | refine g_then_exit ?_ | refine g_in_exit rfl ?_ | refine g_in_exit_ne (by decide) ?_ | refine g_seq ?_ | refine g_region ?_ | refine g_block ?_ | refine g_ret ?_ | refine g_return_n ?_ | refine g_exit ?_ | refine g_skip ?_)
  refine o_move ?_
  refine o_move ?_
  refine o_neq rfl rfl ?_
  refine o_assign ?_
  first | refine g_endt ?_ | refine g_end ?_
  repeat (first | refine g_endt ?_ | refine g_end ?_ | refine g_then ?_ | refine g_in_normal ?_ | refine g_then_ret ?_ | refine g_in_ret ?_ | refine g_then_exit ?_ | refine g_in_exit rfl ?_ | refine g_in_exit_ne (by decide) ?_ | refine g_seq ?_ | refine g_region ?_ | refine g_block ?_ | refine g_ret ?_ | refine g_return_n ?_ | refine g_exit ?_ | refine g_skip ?_)
  exact ret1 rfl (resT (v := .bool (a != a)) rfl) ⟨by simp, rfl⟩
theorem isNaNS_spec (a : ByteArray) : Ctr Try.prog 118 [.string a] [] (fun v M => v = .bool false ∧ M = []) := by
  refine spec_of Try.func118 rfl Try.ntmps118 rfl fun w0 F => ?_
  repeat (first | refine g_endt ?_ | refine g_end ?_ | refine g_then ?_ | refine g_in_normal ?_ | refine g_then_ret ?_ | refine g_in_ret ?_ | refine g_then_exit ?_ | refine g_in_exit rfl ?_ | refine g_in_exit_ne (by decide) ?_ | refine g_seq ?_ | refine g_region ?_ | refine g_block ?_ | refine g_ret ?_ | refine g_return_n ?_ | refine g_exit ?_ | refine g_skip ?_)
  refine o_assign ?_
  first | refine g_endt ?_ | refine g_end ?_
  repeat (first | refine g_endt ?_ | refine g_end ?_ | refine g_then ?_ | refine g_in_normal ?_ | refine g_then_ret ?_ | refine g_in_ret ?_ | refine g_then_exit ?_ | refine g_in_exit rfl ?_ | refine g_in_exit_ne (by decide) ?_ | refine g_seq ?_ | refine g_region ?_ | refine g_block ?_ | refine g_ret ?_ | refine g_return_n ?_ | refine g_exit ?_ | refine g_skip ?_)
  refine o_move ?_
  refine o_move ?_
  refine o_sneq rfl rfl ?_
  refine o_assign ?_
  first | refine g_endt ?_ | refine g_end ?_
  repeat (first | refine g_endt ?_ | refine g_end ?_ | refine g_then ?_ | refine g_in_normal ?_ | refine g_then_ret ?_ | refine g_in_ret ?_ | refine g_then_exit ?_ | refine g_in_exit rfl ?_ | refine g_in_exit_ne (by decide) ?_ | refine g_seq ?_ | refine g_region ?_ | refine g_block ?_ | refine g_ret ?_ | refine g_return_n ?_ | refine g_exit ?_ | refine g_skip ?_)
  exact ret1 rfl (resT (v := .bool (!(a.toList == a.toList))) rfl) ⟨by simp, rfl⟩
theorem CompareI_spec (a b : Int) : Ctr Try.prog 115 [.int .i64 a, .int .i64 b] [] (fun v M => v = .int .i64 (cmpI a b) ∧ M = []) := by
  refine spec_of Try.func115 rfl Try.ntmps115 rfl fun w0 F => ?_
  repeat (first | refine g_endt ?_ | refine g_end ?_ | refine g_then ?_ | refine g_in_normal ?_ | refine g_then_ret ?_ | refine g_in_ret ?_ | refine g_then_exit ?_ | refine g_in_exit rfl ?_ | refine g_in_exit_ne (by decide) ?_ | refine g_seq ?_ | refine g_region ?_ | refine g_block ?_ | refine g_ret ?_ | refine g_return_n ?_ | refine g_exit ?_ | refine g_skip ?_)
  refine o_assign ?_
  first | refine g_endt ?_ | refine g_end ?_
  repeat (first | refine g_endt ?_ | refine g_end ?_ | refine g_then ?_ | refine g_in_normal ?_ | refine g_then_ret ?_ | refine g_in_ret ?_ | refine g_then_exit ?_ | refine g_in_exit rfl ?_ | refine g_in_exit_ne (by decide) ?_ | refine g_seq ?_ | refine g_region ?_ | refine g_block ?_ | refine g_ret ?_ | refine g_return_n ?_ | refine g_exit ?_ | refine g_skip ?_)
  refine o_move ?_
  refine o_call (isNaNI_spec a) rfl rfl ?_
  rintro _ _ ⟨rfl, rfl⟩
  refine o_assign ?_
  first | refine g_endt ?_ | refine g_end ?_
  repeat (first | refine g_endt ?_ | refine g_end ?_ | refine g_then ?_ | refine g_in_normal ?_ | refine g_then_ret ?_ | refine g_in_ret ?_ | refine g_then_exit ?_ | refine g_in_exit rfl ?_ | refine g_in_exit_ne (by decide) ?_ | refine g_seq ?_ | refine g_region ?_ | refine g_block ?_ | refine g_ret ?_ | refine g_return_n ?_ | refine g_exit ?_ | refine g_skip ?_)
  refine o_move ?_
  refine o_call (isNaNI_spec b) rfl rfl ?_
  rintro _ _ ⟨rfl, rfl⟩
  refine o_assign ?_
  first | refine g_endt ?_ | refine g_end ?_
  repeat (first | refine g_endt ?_ | refine g_end ?_ | refine g_then ?_ | refine g_in_normal ?_ | refine g_then_ret ?_ | refine g_in_ret ?_ | refine g_then_exit ?_ | refine g_in_exit rfl ?_ | refine g_in_exit_ne (by decide) ?_ | refine g_seq ?_ | refine g_region ?_ | refine g_block ?_ | refine g_ret ?_ | refine g_return_n ?_ | refine g_exit ?_ | refine g_skip ?_)
  refine o_move ?_
  first | refine g_endt ?_ | refine g_end ?_
  first | refine g_seq (g_cond_f rfl (rfl) ?_) | refine g_cond_f rfl (rfl) ?_
  repeat (first | refine g_endt ?_ | refine g_end ?_ | refine g_then ?_ | refine g_in_normal ?_ | refine g_then_ret ?_ | refine g_in_ret ?_ | refine g_then_exit ?_ | refine g_in_exit rfl ?_ | refine g_in_exit_ne (by decide) ?_ | refine g_seq ?_ | refine g_region ?_ | refine g_block ?_ | refine g_ret ?_ | refine g_return_n ?_ | refine g_exit ?_ | refine g_skip ?_)
  refine o_move ?_
  first | refine g_endt ?_ | refine g_end ?_
  first | refine g_seq (g_cond_f rfl (rfl) ?_) | refine g_cond_f rfl (rfl) ?_
  repeat (first | refine g_endt ?_ | refine g_end ?_ | refine g_then ?_ | refine g_in_normal ?_ | refine g_then_ret ?_ | refine g_in_ret ?_ | refine g_then_exit ?_ | refine g_in_exit rfl ?_ | refine g_in_exit_ne (by decide) ?_ | refine g_seq ?_ | refine g_region ?_ | refine g_block ?_ | refine g_ret ?_ | refine g_return_n ?_ | refine g_exit ?_ | refine g_skip ?_)
  refine o_move ?_
  refine o_move ?_
  refine o_lss rfl rfl ?_
  first | refine g_endt ?_ | refine g_end ?_
  by_cases h1 : a < b
  · first | refine g_seq (g_cond_t rfl (by simpa using h1) ?_) | refine g_cond_t rfl (by simpa using h1) ?_
    repeat (first | refine g_endt ?_ | refine g_end ?_ | refine g_then ?_ | refine g_in_normal ?_ | refine g_then_ret ?_ | refine g_in_ret ?_ | refine g_then_exit ?_ | refine g_in_exit rfl ?_ | refine g_in_exit_ne (by decide) ?_ | refine g_seq ?_ | refine g_region ?_ | refine g_block ?_ | refine g_ret ?_ | refine g_return_n ?_ | refine g_exit ?_ | refine g_skip ?_)
    refine o_assign ?_
    first | refine g_endt ?_ | refine g_end ?_
    repeat (first | refine g_endt ?_ | refine g_end ?_ | refine g_then ?_ | refine g_in_normal ?_ | refine g_then_ret ?_ | refine g_in_ret ?_ | refine g_then_exit ?_ | refine g_in_exit rfl ?_ | refine g_in_exit_ne (by decide) ?_ | refine g_seq ?_ | refine g_region ?_ | refine g_block ?_ | refine g_ret ?_ | refine g_return_n ?_ | refine g_exit ?_ | refine g_skip ?_)
    exact ret1 rfl (resT (v := .int .i64 (-1)) rfl) ⟨by simp [cmpI, h1], rfl⟩
  · first | refine g_seq (g_cond_f rfl (by simpa using h1) ?_) | refine g_cond_f rfl (by simpa using h1) ?_
    repeat (first | refine g_endt ?_ | refine g_end ?_ | refine g_then ?_ | refine g_in_normal ?_ | refine g_then_ret ?_ | refine g_in_ret ?_ | refine g_then_exit ?_ | refine g_in_exit rfl ?_ | refine g_in_exit_ne (by decide) ?_ | refine g_seq ?_ | refine g_region ?_ | refine g_block ?_ | refine g_ret ?_ | refine g_return_n ?_ | refine g_exit ?_ | refine g_skip ?_)
    refine o_move ?_
    refine o_move ?_
    refine o_gtr rfl rfl ?_
    first | refine g_endt ?_ | refine g_end ?_
    by_cases h2 : b < a
    · first | refine g_seq (g_cond_t rfl (by simpa using h2) ?_) | refine g_cond_t rfl (by simpa using h2) ?_
      repeat (first | refine g_endt ?_ | refine g_end ?_ | refine g_then ?_ | refine g_in_normal ?_ | refine g_then_ret ?_ | refine g_in_ret ?_ | refine g_then_exit ?_ | refine g_in_exit rfl ?_ | refine g_in_exit_ne (by decide) ?_ | refine g_seq ?_ | refine g_region ?_ | refine g_block ?_ | refine g_ret ?_ | refine g_return_n ?_ | refine g_exit ?_ | refine g_skip ?_)
      refine o_assign ?_
      first | refine g_endt ?_ | refine g_end ?_
      repeat (first | refine g_endt ?_ | refine g_end ?_ | refine g_then ?_ | refine g_in_normal ?_ | refine g_then_ret ?_ | refine g_in_ret ?_ | refine g_then_exit ?_ | refine g_in_exit rfl ?_ | refine g_in_exit_ne (by decide) ?_ | refine g_seq ?_ | refine g_region ?_ | refine g_block ?_ | refine g_ret ?_ | refine g_return_n ?_ | refine g_exit ?_ | refine g_skip ?_)
      exact ret1 rfl (resT (v := .int .i64 1) rfl) ⟨by simp [cmpI, h1, h2], rfl⟩
    · first | refine g_seq (g_cond_f rfl (by simpa using h2) ?_) | refine g_cond_f rfl (by simpa using h2) ?_
      repeat (first | refine g_endt ?_ | refine g_end ?_ | refine g_then ?_ | refine g_in_normal ?_ | refine g_then_ret ?_ | refine g_in_ret ?_ | refine g_then_exit ?_ | refine g_in_exit rfl ?_ | refine g_in_exit_ne (by decide) ?_ | refine g_seq ?_ | refine g_region ?_ | refine g_block ?_ | refine g_ret ?_ | refine g_return_n ?_ | refine g_exit ?_ | refine g_skip ?_)
      refine o_assign ?_
      first | refine g_endt ?_ | refine g_end ?_
      repeat (first | refine g_endt ?_ | refine g_end ?_ | refine g_then ?_ | refine g_in_normal ?_ | refine g_then_ret ?_ | refine g_in_ret ?_ | refine g_then_exit ?_ | refine g_in_exit rfl ?_ | refine g_in_exit_ne (by decide) ?_ | refine g_seq ?_ | refine g_region ?_ | refine g_block ?_ | refine g_ret ?_ | refine g_return_n ?_ | refine g_exit ?_ | refine g_skip ?_)
      exact ret1 rfl (resT (v := .int .i64 0) rfl) ⟨by simp [cmpI, h1, h2], rfl⟩
theorem CompareS_spec (a b : ByteArray) : Ctr Try.prog 116 [.string a, .string b] [] (fun v M => v = .int .i64 (cmpS a b) ∧ M = []) := by
  refine spec_of Try.func116 rfl Try.ntmps116 rfl fun w0 F => ?_
  repeat (first | refine g_endt ?_ | refine g_end ?_ | refine g_then ?_ | refine g_in_normal ?_ | refine g_then_ret ?_ | refine g_in_ret ?_ | refine g_then_exit ?_ | refine g_in_exit rfl ?_ | refine g_in_exit_ne (by decide) ?_ | refine g_seq ?_ | refine g_region ?_ | refine g_block ?_ | refine g_ret ?_ | refine g_return_n ?_ | refine g_exit ?_ | refine g_skip ?_)
  refine o_assign ?_
  first | refine g_endt ?_ | refine g_end ?_
  repeat (first | refine g_endt ?_ | refine g_end ?_ | refine g_then ?_ | refine g_in_normal ?_ | refine g_then_ret ?_ | refine g_in_ret ?_ | refine g_then_exit ?_ | refine g_in_exit rfl ?_ | refine g_in_exit_ne (by decide) ?_ | refine g_seq ?_ | refine g_region ?_ | refine g_block ?_ | refine g_ret ?_ | refine g_return_n ?_ | refine g_exit ?_ | refine g_skip ?_)
  refine o_move ?_
  refine o_call (isNaNS_spec a) rfl rfl ?_
  rintro _ _ ⟨rfl, rfl⟩
  refine o_assign ?_
  first | refine g_endt ?_ | refine g_end ?_
  repeat (first | refine g_endt ?_ | refine g_end ?_ | refine g_then ?_ | refine g_in_normal ?_ | refine g_then_ret ?_ | refine g_in_ret ?_ | refine g_then_exit ?_ | refine g_in_exit rfl ?_ | refine g_in_exit_ne (by decide) ?_ | refine g_seq ?_ | refine g_region ?_ | refine g_block ?_ | refine g_ret ?_ | refine g_return_n ?_ | refine g_exit ?_ | refine g_skip ?_)
  refine o_move ?_
  refine o_call (isNaNS_spec b) rfl rfl ?_
  rintro _ _ ⟨rfl, rfl⟩
  refine o_assign ?_
  first | refine g_endt ?_ | refine g_end ?_
  repeat (first | refine g_endt ?_ | refine g_end ?_ | refine g_then ?_ | refine g_in_normal ?_ | refine g_then_ret ?_ | refine g_in_ret ?_ | refine g_then_exit ?_ | refine g_in_exit rfl ?_ | refine g_in_exit_ne (by decide) ?_ | refine g_seq ?_ | refine g_region ?_ | refine g_block ?_ | refine g_ret ?_ | refine g_return_n ?_ | refine g_exit ?_ | refine g_skip ?_)
  refine o_move ?_
  first | refine g_endt ?_ | refine g_end ?_
  first | refine g_seq (g_cond_f rfl (rfl) ?_) | refine g_cond_f rfl (rfl) ?_
  repeat (first | refine g_endt ?_ | refine g_end ?_ | refine g_then ?_ | refine g_in_normal ?_ | refine g_then_ret ?_ | refine g_in_ret ?_ | refine g_then_exit ?_ | refine g_in_exit rfl ?_ | refine g_in_exit_ne (by decide) ?_ | refine g_seq ?_ | refine g_region ?_ | refine g_block ?_ | refine g_ret ?_ | refine g_return_n ?_ | refine g_exit ?_ | refine g_skip ?_)
  refine o_move ?_
  first | refine g_endt ?_ | refine g_end ?_
  first | refine g_seq (g_cond_f rfl (rfl) ?_) | refine g_cond_f rfl (rfl) ?_
  repeat (first | refine g_endt ?_ | refine g_end ?_ | refine g_then ?_ | refine g_in_normal ?_ | refine g_then_ret ?_ | refine g_in_ret ?_ | refine g_then_exit ?_ | refine g_in_exit rfl ?_ | refine g_in_exit_ne (by decide) ?_ | refine g_seq ?_ | refine g_region ?_ | refine g_block ?_ | refine g_ret ?_ | refine g_return_n ?_ | refine g_exit ?_ | refine g_skip ?_)
  refine o_move ?_
  refine o_move ?_
  refine o_slss rfl rfl ?_
  first | refine g_endt ?_ | refine g_end ?_
  by_cases h1 : Op.bytesLess a.toList b.toList = true
  · first | refine g_seq (g_cond_t rfl (h1) ?_) | refine g_cond_t rfl (h1) ?_
    repeat (first | refine g_endt ?_ | refine g_end ?_ | refine g_then ?_ | refine g_in_normal ?_ | refine g_then_ret ?_ | refine g_in_ret ?_ | refine g_then_exit ?_ | refine g_in_exit rfl ?_ | refine g_in_exit_ne (by decide) ?_ | refine g_seq ?_ | refine g_region ?_ | refine g_block ?_ | refine g_ret ?_ | refine g_return_n ?_ | refine g_exit ?_ | refine g_skip ?_)
    refine o_assign ?_
    first | refine g_endt ?_ | refine g_end ?_
    repeat (first | refine g_endt ?_ | refine g_end ?_ | refine g_then ?_ | refine g_in_normal ?_ | refine g_then_ret ?_ | refine g_in_ret ?_ | refine g_then_exit ?_ | refine g_in_exit rfl ?_ | refine g_in_exit_ne (by decide) ?_ | refine g_seq ?_ | refine g_region ?_ | refine g_block ?_ | refine g_ret ?_ | refine g_return_n ?_ | refine g_exit ?_ | refine g_skip ?_)
    exact ret1 rfl (resT (v := .int .i64 (-1)) rfl) ⟨by simp [cmpS, h1], rfl⟩
  · first | refine g_seq (g_cond_f rfl (by simpa using h1) ?_) | refine g_cond_f rfl (by simpa using h1) ?_
    repeat (first | refine g_endt ?_ | refine g_end ?_ | refine g_then ?_ | refine g_in_normal ?_ | refine g_then_ret ?_ | refine g_in_ret ?_ | refine g_then_exit ?_ | refine g_in_exit rfl ?_ | refine g_in_exit_ne (by decide) ?_ | refine g_seq ?_ | refine g_region ?_ | refine g_block ?_ | refine g_ret ?_ | refine g_return_n ?_ | refine g_exit ?_ | refine g_skip ?_)
    refine o_move ?_
    refine o_move ?_
    refine o_sgtr rfl rfl ?_
    first | refine g_endt ?_ | refine g_end ?_
    by_cases h2 : Op.bytesLess b.toList a.toList = true
    · first | refine g_seq (g_cond_t rfl (h2) ?_) | refine g_cond_t rfl (h2) ?_
      repeat (first | refine g_endt ?_ | refine g_end ?_ | refine g_then ?_ | refine g_in_normal ?_ | refine g_then_ret ?_ | refine g_in_ret ?_ | refine g_then_exit ?_ | refine g_in_exit rfl ?_ | refine g_in_exit_ne (by decide) ?_ | refine g_seq ?_ | refine g_region ?_ | refine g_block ?_ | refine g_ret ?_ | refine g_return_n ?_ | refine g_exit ?_ | refine g_skip ?_)
      refine o_assign ?_
      first | refine g_endt ?_ | refine g_end ?_
      repeat (first | refine g_endt ?_ | refine g_end ?_ | refine g_then ?_ | refine g_in_normal ?_ | refine g_then_ret ?_ | refine g_in_ret ?_ | refine g_then_exit ?_ | refine g_in_exit rfl ?_ | refine g_in_exit_ne (by decide) ?_ | refine g_seq ?_ | refine g_region ?_ | refine g_block ?_ | refine g_ret ?_ | refine g_return_n ?_ | refine g_exit ?_ | refine g_skip ?_)
      exact ret1 rfl (resT (v := .int .i64 1) rfl) ⟨by simp [cmpS, h1, h2], rfl⟩
    · first | refine g_seq (g_cond_f rfl (by simpa using h2) ?_) | refine g_cond_f rfl (by simpa using h2) ?_
      repeat (first | refine g_endt ?_ | refine g_end ?_ | refine g_then ?_ | refine g_in_normal ?_ | refine g_then_ret ?_ | refine g_in_ret ?_ | refine g_then_exit ?_ | refine g_in_exit rfl ?_ | refine g_in_exit_ne (by decide) ?_ | refine g_seq ?_ | refine g_region ?_ | refine g_block ?_ | refine g_ret ?_ | refine g_return_n ?_ | refine g_exit ?_ | refine g_skip ?_)
      refine o_assign ?_
      first | refine g_endt ?_ | refine g_end ?_
      repeat (first | refine g_endt ?_ | refine g_end ?_ | refine g_then ?_ | refine g_in_normal ?_ | refine g_then_ret ?_ | refine g_in_ret ?_ | refine g_then_exit ?_ | refine g_in_exit rfl ?_ | refine g_in_exit_ne (by decide) ?_ | refine g_seq ?_ | refine g_region ?_ | refine g_block ?_ | refine g_ret ?_ | refine g_return_n ?_ | refine g_exit ?_ | refine g_skip ?_)
      exact ret1 rfl (resT (v := .int .i64 0) rfl) ⟨by simp [cmpS, h1, h2], rfl⟩
theorem CompareSym_spec (a b : SymD) : Ctr Try.prog 114 [a.val, b.val] [] (fun v M => v = .int .i64 (a.cmp b) ∧ M = []) := by
  refine spec_of Try.func114 rfl Try.ntmps114 rfl fun w0 F => ?_
  repeat (first | refine g_endt ?_ | refine g_end ?_ | refine g_then ?_ | refine g_in_normal ?_ | refine g_then_ret ?_ | refine g_in_ret ?_ | refine g_then_exit ?_ | refine g_in_exit rfl ?_ | refine g_in_exit_ne (by decide) ?_ | refine g_seq ?_ | refine g_region ?_ | refine g_block ?_ | refine g_ret ?_ | refine g_return_n ?_ | refine g_exit ?_ | refine g_skip ?_)
  refine o_boxc a.val.cells rfl rfl fun p => ?_
  refine o_boxc b.val.cells rfl rfl fun q => ?_
  refine o_assign ?_
  first | refine g_endt ?_ | refine g_end ?_
  repeat (first | refine g_endt ?_ | refine g_end ?_ | refine g_then ?_ | refine g_in_normal ?_ | refine g_then_ret ?_ | refine g_in_ret ?_ | refine g_then_exit ?_ | refine g_in_exit rfl ?_ | refine g_in_exit_ne (by decide) ?_ | refine g_seq ?_ | refine g_region ?_ | refine g_block ?_ | refine g_ret ?_ | refine g_return_n ?_ | refine g_exit ?_ | refine g_skip ?_)
  refine o_field rfl ?_
  refine o_load1 (v := .int .i64 a.kind) rfl rfl ?_
  refine o_field rfl ?_
  refine o_load1 (v := .int .i64 b.kind) rfl rfl ?_
  refine o_call (CompareI_spec a.kind b.kind) rfl rfl ?_
  rintro _ _ ⟨rfl, rfl⟩
  refine o_assign ?_
  first | refine g_endt ?_ | refine g_end ?_
  repeat (first | refine g_endt ?_ | refine g_end ?_ | refine g_then ?_ | refine g_in_normal ?_ | refine g_then_ret ?_ | refine g_in_ret ?_ | refine g_then_exit ?_ | refine g_in_exit rfl ?_ | refine g_in_exit_ne (by decide) ?_ | refine g_seq ?_ | refine g_region ?_ | refine g_block ?_ | refine g_ret ?_ | refine g_return_n ?_ | refine g_exit ?_ | refine g_skip ?_)
  refine o_move ?_
  refine o_neq rfl rfl ?_
  first | refine g_endt ?_ | refine g_end ?_
  by_cases h1 : cmpI a.kind b.kind = 0
  · first | refine g_seq (g_cond_f rfl (by simpa using h1) ?_) | refine g_cond_f rfl (by simpa using h1) ?_
    repeat (first | refine g_endt ?_ | refine g_end ?_ | refine g_then ?_ | refine g_in_normal ?_ | refine g_then_ret ?_ | refine g_in_ret ?_ | refine g_then_exit ?_ | refine g_in_exit rfl ?_ | refine g_in_exit_ne (by decide) ?_ | refine g_seq ?_ | refine g_region ?_ | refine g_block ?_ | refine g_ret ?_ | refine g_return_n ?_ | refine g_exit ?_ | refine g_skip ?_)
    refine o_field rfl ?_
    refine o_load1 (v := .string a.text) rfl rfl ?_
    refine o_field rfl ?_
    refine o_load1 (v := .string b.text) rfl rfl ?_
    refine o_call (CompareS_spec a.text b.text) rfl rfl ?_
    rintro _ _ ⟨rfl, rfl⟩
    refine o_assign ?_
    first | refine g_endt ?_ | refine g_end ?_
    repeat (first | refine g_endt ?_ | refine g_end ?_ | refine g_then ?_ | refine g_in_normal ?_ | refine g_then_ret ?_ | refine g_in_ret ?_ | refine g_then_exit ?_ | refine g_in_exit rfl ?_ | refine g_in_exit_ne (by decide) ?_ | refine g_seq ?_ | refine g_region ?_ | refine g_block ?_ | refine g_ret ?_ | refine g_return_n ?_ | refine g_exit ?_ | refine g_skip ?_)
    refine o_move ?_
    refine o_neq rfl rfl ?_
    first | refine g_endt ?_ | refine g_end ?_
    by_cases h2 : cmpS a.text b.text = 0
    · first | refine g_seq (g_cond_f rfl (by simpa using h2) ?_) | refine g_cond_f rfl (by simpa using h2) ?_
      repeat (first | refine g_endt ?_ | refine g_end ?_ | refine g_then ?_ | refine g_in_normal ?_ | refine g_then_ret ?_ | refine g_in_ret ?_ | refine g_then_exit ?_ | refine g_in_exit rfl ?_ | refine g_in_exit_ne (by decide) ?_ | refine g_seq ?_ | refine g_region ?_ | refine g_block ?_ | refine g_ret ?_ | refine g_return_n ?_ | refine g_exit ?_ | refine g_skip ?_)
      refine o_field rfl ?_
      refine o_load1 (v := .int .i64 a.n) rfl rfl ?_
      refine o_field rfl ?_
      refine o_load1 (v := .int .i64 b.n) rfl rfl ?_
      refine o_call (CompareI_spec a.n b.n) rfl rfl ?_
      rintro _ _ ⟨rfl, rfl⟩
      refine o_assign ?_
      first | refine g_endt ?_ | refine g_end ?_
      repeat (first | refine g_endt ?_ | refine g_end ?_ | refine g_then ?_ | refine g_in_normal ?_ | refine g_then_ret ?_ | refine g_in_ret ?_ | refine g_then_exit ?_ | refine g_in_exit rfl ?_ | refine g_in_exit_ne (by decide) ?_ | refine g_seq ?_ | refine g_region ?_ | refine g_block ?_ | refine g_ret ?_ | refine g_return_n ?_ | refine g_exit ?_ | refine g_skip ?_)
      exact ret1 rfl (resT (v := .int .i64 (cmpI a.n b.n)) rfl) ⟨by simp [SymD.cmp, lex, h1, h2], rfl⟩
    · first | refine g_seq (g_cond_t rfl (by simpa using h2) ?_) | refine g_cond_t rfl (by simpa using h2) ?_
      repeat (first | refine g_endt ?_ | refine g_end ?_ | refine g_then ?_ | refine g_in_normal ?_ | refine g_then_ret ?_ | refine g_in_ret ?_ | refine g_then_exit ?_ | refine g_in_exit rfl ?_ | refine g_in_exit_ne (by decide) ?_ | refine g_seq ?_ | refine g_region ?_ | refine g_block ?_ | refine g_ret ?_ | refine g_return_n ?_ | refine g_exit ?_ | refine g_skip ?_)
      refine o_move ?_
      refine o_assign ?_
      first | refine g_endt ?_ | refine g_end ?_
      repeat (first | refine g_endt ?_ | refine g_end ?_ | refine g_then ?_ | refine g_in_normal ?_ | refine g_then_ret ?_ | refine g_in_ret ?_ | refine g_then_exit ?_ | refine g_in_exit rfl ?_ | refine g_in_exit_ne (by decide) ?_ | refine g_seq ?_ | refine g_region ?_ | refine g_block ?_ | refine g_ret ?_ | refine g_return_n ?_ | refine g_exit ?_ | refine g_skip ?_)
      exact ret1 rfl (resT (v := .int .i64 (cmpS a.text b.text)) rfl) ⟨by simp [SymD.cmp, lex, h1, h2], rfl⟩
  · first | refine g_seq (g_cond_t rfl (by simpa using h1) ?_) | refine g_cond_t rfl (by simpa using h1) ?_
    repeat (first | refine g_endt ?_ | refine g_end ?_ | refine g_then ?_ | refine g_in_normal ?_ | refine g_then_ret ?_ | refine g_in_ret ?_ | refine g_then_exit ?_ | refine g_in_exit rfl ?_ | refine g_in_exit_ne (by decide) ?_ | refine g_seq ?_ | refine g_region ?_ | refine g_block ?_ | refine g_ret ?_ | refine g_return_n ?_ | refine g_exit ?_ | refine g_skip ?_)
    refine o_move ?_
    refine o_assign ?_
    first | refine g_endt ?_ | refine g_end ?_
    repeat (first | refine g_endt ?_ | refine g_end ?_ | refine g_then ?_ | refine g_in_normal ?_ | refine g_then_ret ?_ | refine g_in_ret ?_ | refine g_then_exit ?_ | refine g_in_exit rfl ?_ | refine g_in_exit_ne (by decide) ?_ | refine g_seq ?_ | refine g_region ?_ | refine g_block ?_ | refine g_ret ?_ | refine g_return_n ?_ | refine g_exit ?_ | refine g_skip ?_)
    exact ret1 rfl (resT (v := .int .i64 (cmpI a.kind b.kind)) rfl) ⟨by simp [SymD.cmp, lex, h1], rfl⟩
end Go.Proofs.Ytlognaddmbolgaa
/- Pages of symbols and numbers; sorted lists; where a thing stands in one. -/
namespace Go.Proofs.Ytlognaddmbolgaa
open Go Go.Sl
attribute [local irreducible] Code.wpIn roundPost bodyPostM runL Ret Meets Begin

section
variable {α : Type} (f : α → α → Int)
/-- The list rises. -/
def Srt (ys : List α) : Prop := ∀ (i j : Nat) (a b : α), i < j → ys[i]? = some a → ys[j]? = some b → f a b < 0
/-- What a search tells. -/
def FindR (ys : List α) (x : α) (k : Nat) (there : Bool) : Prop :=
  k ≤ ys.length ∧ (there = true → ∃ y, ys[k]? = some y ∧ f y x = 0) ∧ (there = false → (∀ (j : Nat) (y : α), j < k → ys[j]? = some y → f y x < 0) ∧ ∀ (j : Nat) (y : α), k ≤ j → ys[j]? = some y → 0 < f y x)
end
/-- A slice, as a value. -/
structure SlV where
  a : Option Addr
  len : Nat
  cap : Nat
end Go.Proofs.Ytlognaddmbolgaa
/- Pages of an ordered map, for one type of keys and one of values. -/
namespace Go.Proofs.Ytlognaddmbolgaa
open Go Go.Sl
attribute [local irreducible] Code.wpIn roundPost bodyPostM runL Ret Meets Begin

structure PgSI where
  k : SymD
  v : Int
def PgSI.vval (v : Int) : Value := .int .i64 v
def PgSI.val (p : PgSI) : Value := .agg #[.int .i64 p.k.kind, .string p.k.text, .int .i64 p.k.n, PgSI.vval p.v]
def PgSI.enc (p : PgSI) : List Value := p.val.cells.toList
/-- As an argument of a call: one value. -/
def PgSI.enc' (p : PgSI) : List Value := [p.val]
instance : EncLen PgSI.enc 4 := ⟨fun _ => rfl, fun e u h => by simp [PgSI.enc, PgSI.val, Value.cells] at h; rcases h with h | h | h | h <;> subst h <;> rfl⟩
def PgSI.cmp (a b : PgSI) : Int := a.k.cmp b.k
theorem PgSI.lin : LinCmp PgSI.cmp := linSym.pull PgSI.k
def PgSI.enc2 (p : PgSI) : List Value := [p.k.val, PgSI.vval p.v]
def PgSI.zero : PgSI := ⟨⟨0, ByteArray.empty, 0⟩, 0⟩
theorem PgSI.cmp_spec (a b : PgSI) : Ctr Try.prog 130 [a.val, b.val] [] (fun v M => v = .int .i64 (a.cmp b) ∧ M = []) := by
  refine spec_of Try.func130 rfl Try.ntmps130 rfl fun w0 F => ?_
  repeat (first | refine g_endt ?_ | refine g_end ?_ | refine g_then ?_ | refine g_in_normal ?_ | refine g_then_ret ?_ | refine g_in_ret ?_ | refine g_then_exit ?_ | refine g_in_exit rfl ?_ | refine g_in_exit_ne (by decide) ?_ | refine g_seq ?_ | refine g_region ?_ | refine g_block ?_ | refine g_ret ?_ | refine g_return_n ?_ | refine g_exit ?_ | refine g_skip ?_)
  refine o_boxc a.val.cells rfl rfl fun p => ?_
  refine o_boxc b.val.cells rfl rfl fun q => ?_
  refine o_assign ?_
  first | refine g_endt ?_ | refine g_end ?_
  repeat (first | refine g_endt ?_ | refine g_end ?_ | refine g_then ?_ | refine g_in_normal ?_ | refine g_then_ret ?_ | refine g_in_ret ?_ | refine g_then_exit ?_ | refine g_in_exit rfl ?_ | refine g_in_exit_ne (by decide) ?_ | refine g_seq ?_ | refine g_region ?_ | refine g_block ?_ | refine g_ret ?_ | refine g_return_n ?_ | refine g_exit ?_ | refine g_skip ?_)
  refine o_field rfl ?_
  refine o_loadN (v := a.k.val) rfl rfl rfl ?_
  refine o_iface rfl (fun w => by kernel_rfl) ?_
  refine o_field rfl ?_
  refine o_loadN (v := b.k.val) rfl rfl rfl ?_
  refine o_invoke (CompareSym_spec a.k b.k) rfl rfl (fun w => by kernel_rfl) ?_
  rintro _ _ ⟨rfl, rfl⟩
  refine o_assign ?_
  first | refine g_endt ?_ | refine g_end ?_
  repeat (first | refine g_endt ?_ | refine g_end ?_ | refine g_then ?_ | refine g_in_normal ?_ | refine g_then_ret ?_ | refine g_in_ret ?_ | refine g_then_exit ?_ | refine g_in_exit rfl ?_ | refine g_in_exit_ne (by decide) ?_ | refine g_seq ?_ | refine g_region ?_ | refine g_block ?_ | refine g_ret ?_ | refine g_return_n ?_ | refine g_exit ?_ | refine g_skip ?_)
  exact ret1 rfl (resT (v := .int .i64 (a.cmp b)) rfl) ⟨rfl, rfl⟩
end Go.Proofs.Ytlognaddmbolgaa
/- Sorted lists: a member put in, taken out, exchanged. Plain law, no program in sight. -/
namespace Go.Proofs.Ytlognaddmbolgaa
open Go Go.Sl

section
variable {α : Type} {f : α → α → Int} (lf : LinCmp f) {ys : List α} {x y : α} {k : Nat}
theorem get_ins (hk : k ≤ ys.length) (j : Nat) : (ys.take k ++ x :: ys.drop k)[j]? = if j < k then ys[j]? else if j = k then some x else ys[j - 1]? := by
  have h1 : (ys.take k).length = k := by simp; omega
  by_cases h : j < k
  · rw [List.getElem?_append_left (by omega), if_pos h, List.getElem?_take, if_pos h]
  · rw [if_neg h, List.getElem?_append_right (by omega), h1]
    by_cases e : j = k
    · subst e; simp
    · rw [if_neg e]
      obtain ⟨m, hm⟩ : ∃ m, j - k = m + 1 := ⟨j - k - 1, by omega⟩
      rw [hm, List.getElem?_cons_succ, List.getElem?_drop]
      congr 1
      omega
theorem Srt.erase (hs : Srt f ys) (k : Nat) : Srt f (ys.eraseIdx k) := by
  intro i j a b hij ha hb
  rw [List.getElem?_eraseIdx] at ha hb
  split at ha <;> split at hb
  · exact hs i j a b hij ha hb
  · exact hs i (j + 1) a b (by omega) ha hb
  · omega
  · exact hs (i + 1) (j + 1) a b (by omega) ha hb
/-- The member that is one with x. -/
def getM (f : α → α → Int) (ys : List α) (x : α) : Option α := ys.find? fun y => decide (f y x = 0)
theorem getM_none (h : FindR f ys x k false) : getM f ys x = none := by
  obtain ⟨h1, h2⟩ := h.2.2 rfl
  refine List.find?_eq_none.2 fun y hy => ?_
  obtain ⟨j, hj⟩ := List.mem_iff_getElem?.1 hy
  by_cases hjk : j < k
  · have := h1 j y hjk hj; simp; omega
  · have := h2 j y (by omega) hj; simp; omega
include lf
theorem Srt.ins (hs : Srt f ys) (hf : FindR f ys x k false) : Srt f (ys.take k ++ x :: ys.drop k) := by
  obtain ⟨hk, _, h⟩ := hf
  obtain ⟨h1, h2⟩ := h rfl
  intro i j a b hij ha hb
  rw [get_ins hk] at ha hb
  by_cases hi : i < k
  · rw [if_pos hi] at ha
    by_cases hj : j < k
    · rw [if_pos hj] at hb; exact hs i j a b hij ha hb
    · rw [if_neg hj] at hb
      by_cases e : j = k
      · rw [if_pos e] at hb; cases hb; exact h1 i a hi ha
      · rw [if_neg e] at hb; exact hs i (j - 1) a b (by omega) ha hb
  · rw [if_neg hi] at ha
    rw [if_neg (by omega), if_neg (by omega)] at hb
    by_cases e : i = k
    · rw [if_pos e] at ha; cases ha
      have := h2 (j - 1) b (by omega) hb
      have := lf.swap b x
      omega
    · rw [if_neg e] at ha; exact hs (i - 1) (j - 1) a b (by omega) ha hb
theorem Srt.set (hs : Srt f ys) (hy : ys[k]? = some y) (e : f y x = 0) : Srt f (ys.set k x) := by
  have hk : k < ys.length := (List.getElem?_eq_some_iff.1 hy).1
  intro i j a b hij ha hb
  rw [List.getElem?_set] at ha hb
  by_cases hi : k = i
  · rw [if_pos hi, if_pos (by omega)] at ha
    cases ha
    rw [if_neg (by omega)] at hb
    subst hi
    rw [← lf.eqv y x b e]
    exact hs k j y b hij hy hb
  · rw [if_neg hi] at ha
    by_cases hj : k = j
    · rw [if_pos hj, if_pos (by omega)] at hb
      cases hb
      subst hj
      rw [← lf.eqv' y x a e]
      exact hs i k a y hij ha hy
    · rw [if_neg hj] at hb
      exact hs i j a b hij ha hb
/-- Where a thing stands is one place. -/
theorem FindR.one {k' : Nat} (hs : Srt f ys) (h : FindR f ys x k true) (h' : FindR f ys x k' true) : k = k' := by
  obtain ⟨a, ha, ea⟩ := h.2.1 rfl
  obtain ⟨b, hb, eb⟩ := h'.2.1 rfl
  have e2 : f a b = 0 := by
    have h3 := lf.swap b x
    rw [lf.eqv' x b a (by omega)] at ea
    exact ea
  rcases Nat.lt_trichotomy k k' with h3 | h3 | h3
  · have := hs k k' a b h3 ha hb; omega
  · exact h3
  · have := hs k' k b a h3 hb ha
    have := lf.swap a b
    omega
theorem getM_some (hs : Srt f ys) (h : FindR f ys x k true) (hy : ys[k]? = some y) : getM f ys x = some y := by
  have hk := h.2.1 rfl
  obtain ⟨a, ha, ea⟩ := hk
  rw [hy] at ha
  cases ha
  cases hg : getM f ys x with
  | none =>
    have := List.find?_eq_none.1 hg y (List.mem_of_getElem? hy)
    simp [ea] at this
  | some b =>
    have h1 := List.find?_some hg
    have h2 := List.mem_of_find?_eq_some hg
    obtain ⟨j, hj⟩ := List.mem_iff_getElem?.1 h2
    have h3 : FindR f ys x j true := ⟨by have := (List.getElem?_eq_some_iff.1 hj).1; omega, fun _ => ⟨b, hj, by simpa using h1⟩, fun e => by cases e⟩
    have h4 := FindR.one lf hs h h3
    subst h4
    rw [hy] at hj
    exact hj.symm
/-- What is not there has its place all the same. -/
theorem find_none (hs : Srt f ys) (h : getM f ys x = none) : ∃ k, FindR f ys x k false := by
  have hne : ∀ (j : Nat) (a : α), ys[j]? = some a → f a x ≠ 0 := fun j a ha => by
    have := List.find?_eq_none.1 h a (List.mem_of_getElem? ha)
    simpa using this
  have key : ∀ n, n ≤ ys.length → ∃ k, k ≤ n ∧ (∀ (j : Nat) (a : α), j < k → ys[j]? = some a → f a x < 0) ∧ ∀ (j : Nat) (a : α), k ≤ j → j < n → ys[j]? = some a → 0 < f a x := by
    intro n
    induction n with
    | zero => exact fun _ => ⟨0, Nat.le_refl _, fun j a hj => absurd hj (Nat.not_lt_zero j), fun j a _ hj => absurd hj (Nat.not_lt_zero j)⟩
    | succ n ih =>
      intro hn
      obtain ⟨k, hk, h1, h2⟩ := ih (by omega)
      obtain ⟨b, hb⟩ : ∃ b, ys[n]? = some b := ⟨_, List.getElem?_eq_getElem (by omega)⟩
      by_cases hlt : f b x < 0
      · refine ⟨n + 1, Nat.le_refl _, fun j a hj ha => ?_, fun j a h3 h4 => by omega⟩
        by_cases e : j = n
        · subst e; rw [hb] at ha; cases ha; exact hlt
        · exact lf.trans _ _ _ (hs j n a b (by omega) ha hb) hlt
      · refine ⟨k, by omega, h1, fun j a hj hjn ha => ?_⟩
        by_cases e : j = n
        · subst e; rw [hb] at ha; cases ha; have := hne j b hb; omega
        · exact h2 j a hj (by omega) ha
  obtain ⟨k, hk, h1, h2⟩ := key ys.length (Nat.le_refl _)
  exact ⟨k, hk, fun e => (by cases e), fun _ => ⟨h1, fun j a hj ha => h2 j a hj (List.getElem?_eq_some_iff.1 ha).1 ha⟩⟩
/-- One exchanged for another that is one with it: taken out and put in again. -/
theorem replace {k' : Nat} {there : Bool} (hs : Srt f ys) (hy : ys[k]? = some y) (e : f y x = 0) (h : FindR f (ys.eraseIdx k) x k' there) : there = false ∧ (ys.eraseIdx k).take k' ++ x :: (ys.eraseIdx k).drop k' = ys.set k x := by
  have hk : k < ys.length := (List.getElem?_eq_some_iff.1 hy).1
  have low : ∀ j a, j < k → ys[j]? = some a → f a x < 0 := fun j a hj ha => by
    rw [← lf.eqv' y x a e]; exact hs j k a y hj ha hy
  have high : ∀ j a, k < j → ys[j]? = some a → 0 < f a x := fun j a hj ha => by
    have h1 := hs k j y a hj hy ha
    have h2 := lf.swap y a
    rw [← lf.eqv' y x a e]
    omega
  have hne : ∀ j a, (ys.eraseIdx k)[j]? = some a → f a x ≠ 0 := fun j a ha => by
    rw [List.getElem?_eraseIdx] at ha
    split at ha
    · have := low j a ‹_› ha; omega
    · have := high (j + 1) a (by omega) ha; omega
  have ht : there = false := by
    cases there with
    | false => rfl
    | true =>
      obtain ⟨a, ha, ea⟩ := h.2.1 rfl
      exact absurd ea (hne k' a ha)
  subst ht
  refine ⟨rfl, ?_⟩
  obtain ⟨h1, h2⟩ := h.2.2 rfl
  have hlen : (ys.eraseIdx k).length = ys.length - 1 := by rw [List.length_eraseIdx, if_pos hk]
  have hkk : k' = k := by
    rcases Nat.lt_trichotomy k' k with h3 | h3 | h3
    · have hj : k' < ys.length := by omega
      have ha : (ys.eraseIdx k)[k']? = some ys[k'] := by rw [List.getElem?_eraseIdx, if_pos h3, List.getElem?_eq_getElem hj]
      have := h2 k' _ (Nat.le_refl _) ha
      have := low k' _ h3 (List.getElem?_eq_getElem hj)
      omega
    · exact h3
    · have hj : k + 1 < ys.length := by have := h.1; omega
      have ha : (ys.eraseIdx k)[k]? = some ys[k + 1] := by rw [List.getElem?_eraseIdx, if_neg (by omega), List.getElem?_eq_getElem hj]
      have := h1 k _ h3 ha
      have := high (k + 1) _ (by omega) (List.getElem?_eq_getElem hj)
      omega
  subst hkk
  rw [List.eraseIdx_eq_take_drop_succ, List.set_eq_take_append_cons_drop, if_pos hk]
  have h3 : (ys.take k').length = k' := by simp; omega
  rw [List.take_append_of_le_length (by omega), List.take_of_length_le (by omega), List.drop_append_of_le_length (by omega), List.drop_of_length_le (by omega), List.nil_append]
end
/-- What a search tells, and what is passed over. -/
theorem find_dropWhile {α : Type} {f : α → α → Int} (lf : LinCmp f) {ys : List α} {x : α} {k : Nat} {there : Bool} (hs : Srt f ys) (h : FindR f ys x k there) : ys.drop k = ys.dropWhile fun y => decide (f y x < 0) := by
  have h1 : ∀ (j : Nat) (y : α), j < k → ys[j]? = some y → f y x < 0 := by
    cases there with
    | false => exact (h.2.2 rfl).1
    | true =>
      obtain ⟨z, hz, e⟩ := h.2.1 rfl
      intro j y hj hy
      have := hs j k y z hj hy hz
      have h2 := lf.eqv' z x y e
      omega
  have h2 : ∀ (j : Nat) (y : α), k ≤ j → ys[j]? = some y → ¬ f y x < 0 := by
    cases there with
    | false => intro j y hj hy; have := (h.2.2 rfl).2 j y hj hy; omega
    | true =>
      obtain ⟨z, hz, e⟩ := h.2.1 rfl
      intro j y hj hy
      by_cases e2 : j = k
      · subst e2; rw [hz] at hy; cases hy; omega
      · have := hs k j z y (by omega) hz hy
        have h3 := lf.eqv' z x y e
        have h4 := lf.swap z y
        omega
  have h0 := h.1
  clear h hs lf
  induction ys generalizing k with
  | nil => simp
  | cons y ys ih =>
    cases k with
    | zero =>
      have := h2 0 y (Nat.le_refl _) rfl
      simp [this]
    | succ k =>
      have := h1 0 y (by omega) rfl
      simp only [List.drop_succ_cons]
      rw [List.dropWhile_cons_of_pos (by simpa using this)]
      exact ih (fun j z hj hz => h1 (j + 1) z (by omega) (by simpa using hz)) (fun j z hj hz => h2 (j + 1) z (by omega) (by simpa using hz)) (by simpa using h0)
/-- A loop's store, opened till its first round. -/
def Jin {α : Type} (O : List SProp) (J : List α → List SProp) : List α → List SProp
  | [] => O
  | y :: t => J (y :: t)
theorem Jin_snoc {α : Type} (O : List SProp) (J : List α → List SProp) (pre : List α) (x : α) : Jin O J (pre ++ [x]) = J (pre ++ [x]) := by cases pre <;> rfl
theorem Jin_ent {α : Type} {O : List SProp} {J : List α → List SProp} (h : Ent (sl O) (sl (J []))) : ∀ pre, Ent (sl (Jin O J pre)) (sl (J pre))
  | [] => h
  | _ :: _ => .refl _
end Go.Proofs.Ytlognaddmbolgaa
/- How often each symbol stands in a list, as an ordered map has it. Plain law, no program in sight. -/
namespace Go.Proofs.Ytlognaddmbolgaa
open Go Go.Sl

def cnt (l : List SymD) (k : SymD) : Nat := l.countP fun s => s.beq k
theorem cnt_snoc (l : List SymD) (x k : SymD) : cnt (l ++ [x]) k = cnt l k + if x.beq k = true then 1 else 0 := by
  simp [cnt, List.countP_append, List.countP_singleton]
theorem SymD.beq_self (x : SymD) : x.beq x = true := (SymD.beq_iff x x).2 rfl
theorem SymD.beq_ne {x k : SymD} (h : x ≠ k) : ¬ x.beq k = true := fun e => h ((SymD.beq_iff x k).1 e)
structure CntI (pre : List SymD) (ys : List PgSI) : Prop where
  srt : Srt PgSI.cmp ys
  len : ys.length ≤ pre.length
  mem : ∀ y, y ∈ ys ↔ (0 < cnt pre y.k ∧ y.v = (cnt pre y.k : Int))
  sum : (ys.map PgSI.v).sum = (pre.length : Int)
theorem PgSI.cmp_key {y : PgSI} {k : SymD} {v : Int} : PgSI.cmp y ⟨k, v⟩ = 0 ↔ y.k = k :=
  ⟨fun h => SymD.cmp_zero h, fun h => by show SymD.cmp y.k k = 0; rw [h]; exact linSym.refl k⟩
theorem CntI.nil : CntI [] [] := ⟨fun i j a b _ h => by simp at h, Nat.le_refl _, fun y => by simp [cnt], by simp⟩
theorem CntI.get {pre : List SymD} {ys : List PgSI} (h : CntI pre ys) (k : SymD) (v : Int) : getM PgSI.cmp ys ⟨k, v⟩ = if cnt pre k = 0 then none else some ⟨k, (cnt pre k : Int)⟩ := by
  cases hg : getM PgSI.cmp ys ⟨k, v⟩ with
  | none =>
    by_cases e : cnt pre k = 0
    · rw [if_pos e]
    · exfalso
      have hm := (h.mem ⟨k, (cnt pre k : Int)⟩).2 ⟨by show 0 < cnt pre k; omega, rfl⟩
      have := List.find?_eq_none.1 hg _ hm
      simp at this
      exact this (PgSI.cmp_key.2 rfl)
  | some y =>
    have h1 : PgSI.cmp y ⟨k, v⟩ = 0 := by simpa using List.find?_some hg
    have h2 := (h.mem y).1 (List.mem_of_find?_eq_some hg)
    have h3 := PgSI.cmp_key.1 h1
    obtain ⟨yk, yv⟩ := y
    dsimp only at h3 h2
    subst h3
    rw [if_neg (by omega), h2.2]
theorem CntI.step {pre : List SymD} {ys : List PgSI} (h : CntI pre ys) (x : SymD) {i : Nat} {there : Bool} (hf : FindR PgSI.cmp ys ⟨x, (cnt pre x : Int) + 1⟩ i there) :
    CntI (pre ++ [x]) (cond there (ys.set i ⟨(ys[i]?.map (·.k)).getD x, (cnt pre x : Int) + 1⟩) (ys.take i ++ ⟨x, (cnt pre x : Int) + 1⟩ :: ys.drop i)) := by
  cases there with
  | false =>
    have hno : ∀ y ∈ ys, y.k ≠ x := fun y hy e => by
      obtain ⟨j, hj⟩ := List.mem_iff_getElem?.1 hy
      obtain ⟨h1, h2⟩ := hf.2.2 rfl
      have hz : PgSI.cmp y ⟨x, (cnt pre x : Int) + 1⟩ = 0 := PgSI.cmp_key.2 e
      by_cases hji : j < i
      · have := h1 j y hji hj; omega
      · have := h2 j y (by omega) hj; omega
    have h0 : cnt pre x = 0 := by
      by_cases e : cnt pre x = 0
      · exact e
      · exact absurd rfl (hno ⟨x, (cnt pre x : Int)⟩ ((h.mem _).2 ⟨by show 0 < cnt pre x; omega, rfl⟩))
    refine ⟨Srt.ins PgSI.lin h.srt hf, ?_, fun y => ?_, ?_⟩
    · have := h.len; have := hf.1; simp; omega
    · have hmem : y ∈ ys.take i ++ ⟨x, (cnt pre x : Int) + 1⟩ :: ys.drop i ↔ y = ⟨x, (cnt pre x : Int) + 1⟩ ∨ y ∈ ys := by
        conv => rhs; rw [← List.take_append_drop i ys]
        simp only [List.mem_append, List.mem_cons]
        constructor
        · rintro (h | h | h)
          · exact .inr (.inl h)
          · exact .inl h
          · exact .inr (.inr h)
        · rintro (h | h | h)
          · exact .inr (.inl h)
          · exact .inl h
          · exact .inr (.inr h)
      rw [cond_false, hmem, cnt_snoc]
      by_cases e : x = y.k
      · rw [← e, if_pos (SymD.beq_self x), h0]
        constructor
        · rintro (rfl | hy)
          · simp
          · exact absurd e.symm (hno y hy)
        · rintro ⟨_, hv⟩
          left
          obtain ⟨yk, yv⟩ := y
          dsimp only at e hv
          subst e
          simp at hv
          rw [hv]; rfl
      · rw [if_neg (SymD.beq_ne e), Nat.add_zero, ← h.mem]
        constructor
        · rintro (rfl | hy)
          · exact absurd rfl e
          · exact hy
        · exact .inr
    · rw [cond_false, List.map_append, List.map_cons, List.sum_append, List.sum_cons, h0]
      have hs := h.sum
      rw [← List.take_append_drop i ys, List.map_append, List.sum_append] at hs
      simp only [List.map_take, List.map_drop] at hs ⊢
      simp
      omega
  | true =>
    obtain ⟨y0, hy0, hc⟩ := hf.2.1 rfl
    have hk : y0.k = x := PgSI.cmp_key.1 hc
    have hi : i < ys.length := (List.getElem?_eq_some_iff.1 hy0).1
    have hv0 : y0.v = (cnt pre x : Int) := by have := ((h.mem y0).1 (List.mem_of_getElem? hy0)).2; rw [hk] at this; exact this
    rw [cond_true, hy0]
    simp only [Option.map_some, Option.getD_some, hk]
    refine ⟨Srt.set PgSI.lin h.srt hy0 (PgSI.cmp_key.2 hk), by have := h.len; simp; omega, fun y => ?_, ?_⟩
    · rw [cnt_snoc, List.mem_iff_getElem?]
      by_cases e : x = y.k
      · rw [← e, if_pos (SymD.beq_self x)]
        constructor
        · rintro ⟨j, hj⟩
          rw [List.getElem?_set] at hj
          by_cases hji : i = j
          · rw [if_pos hji, if_pos (by omega)] at hj
            cases hj
            exact ⟨by omega, by simp⟩
          · rw [if_neg hji] at hj
            have hz : PgSI.cmp y y0 = 0 := by show SymD.cmp y.k y0.k = 0; rw [← e, hk]; exact linSym.refl x
            exfalso
            by_cases hlt : j < i
            · have := h.srt j i y y0 hlt hj hy0; omega
            · have h1 := h.srt i j y0 y (by omega) hy0 hj
              have := PgSI.lin.swap y y0
              omega
        · rintro ⟨_, hv⟩
          refine ⟨i, ?_⟩
          rw [List.getElem?_set, if_pos rfl, if_pos hi]
          obtain ⟨yk, yv⟩ := y
          dsimp only at e hv
          subst e
          rw [hv]; simp
      · rw [if_neg (SymD.beq_ne e), Nat.add_zero, ← h.mem, List.mem_iff_getElem?]
        constructor
        · rintro ⟨j, hj⟩
          rw [List.getElem?_set] at hj
          by_cases hji : i = j
          · rw [if_pos hji, if_pos (by omega)] at hj
            cases hj
            exact absurd rfl e
          · rw [if_neg hji] at hj
            exact ⟨j, hj⟩
        · rintro ⟨j, hj⟩
          refine ⟨j, ?_⟩
          rw [List.getElem?_set, if_neg]
          · exact hj
          · intro hij
            subst hij
            rw [hy0] at hj
            cases hj
            exact e hk.symm
    · have hs := h.sum
      rw [List.set_eq_take_append_cons_drop, if_pos hi]
      have hsp : ys = ys.take i ++ y0 :: ys.drop (i + 1) := by
        have h2 : ys.drop i = y0 :: ys.drop (i + 1) := by
          rw [List.drop_eq_getElem_cons hi]
          rw [List.getElem?_eq_getElem hi] at hy0
          cases hy0; rfl
        rw [← h2, List.take_append_drop]
      rw [hsp, List.map_append, List.map_cons, List.sum_append, List.sum_cons, hv0] at hs
      rw [List.map_append, List.map_cons, List.sum_append, List.sum_cons]
      simp only [List.map_take, List.map_drop] at hs ⊢
      simp
      omega
end Go.Proofs.Ytlognaddmbolgaa
/- An ordered set's functions, for one type of members: find, own. -/
namespace Go.Proofs.Ytlognaddmbolgaa
open Go Go.Sl
attribute [local irreducible] Code.wpIn roundPost bodyPostM runL Ret Meets Begin

abbrev SetASI (p : Nat) (ys : List PgSI) : SProp := SetP 145 110 PgSI.enc 4 p ys
section
variable {w0 : World} {A : SProp} {L M : List SProp} {Φ : World → Prop}
theorem openSI (p : Nat) (ys : List PgSI) [tk : Take1 L (SetASI p ys) M] (h : ∀ S c b, G w0 A (cellsB p #[.slice S ys.length c, .bool b] 145 :: row 110 PgSI.enc 4 b S c ys :: M) Φ) : G w0 A L Φ := SetP.open h
theorem shutSI (p : Nat) (ys : List PgSI) (S : Option Addr) (c : Nat) (b : Bool) {len : Nat} (hl : ys.length = len) [tk : Take L [cellsB p #[.slice S len c, .bool b] 145, row 110 PgSI.enc 4 b S c ys] M] (h : G w0 A (SetASI p ys :: M) Φ) : G w0 A L Φ := SetP.shut (S := S) (c := c) (b := b) hl h
theorem shutFSI (p : Nat) (ys : List PgSI) (S : Option Addr) (c : Nat) {len : Nat} (hl : ys.length = len) [tk : Take L [cellsB p #[.slice S len c, .bool false] 145, osl 110 PgSI.enc 4 S c ys] M] (h : G w0 A (SetASI p ys :: M) Φ) : G w0 A L Φ := SetP.shut (S := S) (c := c) (b := false) hl (tk := tk) h
theorem shutTSI (p : Nat) (ys : List PgSI) (S : Option Addr) (c : Nat) {len : Nat} (hl : ys.length = len) [tk : Take L [cellsB p #[.slice S len c, .bool true] 145, psl PgSI.enc 4 S ys] M] (h : G w0 A (SetASI p ys :: M) Φ) : G w0 A L Φ := SetP.shut (S := S) (c := c) (b := true) hl (tk := tk) h
end
theorem findSI_spec (p : Nat) (ys : List PgSI) (x : PgSI) (hs : Srt PgSI.cmp ys) (hl : ys.length ≤ 1000000000) : Ctr Try.prog 82 [.pointer (some ⟨p, 0, none⟩), x.val] [SetASI p ys]
    (fun v M => ∃ (k : Nat) (there : Bool), v = .tuple #[.int .i64 (k : Int), .bool there] ∧ M = [SetASI p ys] ∧ FindR PgSI.cmp ys x k there) := by
  refine spec_of Try.func82 rfl Try.ntmps82 rfl fun w0 F => ?_
  repeat (first | refine g_endt ?_ | refine g_end ?_ | refine g_then ?_ | refine g_in_normal ?_ | refine g_then_ret ?_ | refine g_in_ret ?_ | refine g_then_exit ?_ | refine g_in_exit rfl ?_ | refine g_in_exit_ne (by decide) ?_ | refine g_seq ?_ | refine g_region ?_ | refine g_block ?_ | refine g_ret ?_ | refine g_return_n ?_ | refine g_exit ?_ | refine g_skip ?_)
  refine openSI p ys fun S c b => ?_
  refine o_boxc x.val.cells rfl rfl fun q => ?_
  refine o_assign ?_
  refine o_assign ?_
  first | refine g_endt ?_ | refine g_end ?_
  repeat (first | refine g_endt ?_ | refine g_end ?_ | refine g_then ?_ | refine g_in_normal ?_ | refine g_then_ret ?_ | refine g_in_ret ?_ | refine g_then_exit ?_ | refine g_in_exit rfl ?_ | refine g_in_exit_ne (by decide) ?_ | refine g_seq ?_ | refine g_region ?_ | refine g_block ?_ | refine g_ret ?_ | refine g_return_n ?_ | refine g_exit ?_ | refine g_skip ?_)
  refine g_draw [] [0,1,2,3,4,5,6] [cellsB p #[.slice S ys.length c, .bool b] 145] mixed rfl ?_
  refine ob_q rfl rfl ⟨_, fun X Q h => o_move (g_end (h _ _ ⟨rfl, rfl⟩)), ?_⟩
  refine ob_q rfl rfl ⟨_, fun X Q h => o_nil rfl (g_end (h _ _ ⟨rfl, rfl⟩)), ?_⟩
  refine ob_q rfl rfl ⟨_, fun X Q h => o_field rfl (g_end (h _ _ ⟨rfl, rfl⟩)), ?_⟩
  refine ob_q rfl rfl ⟨_, fun X Q h => o_load1 rfl rfl (g_end (h _ _ ⟨rfl, rfl⟩)), ?_⟩
  refine ob_q rfl rfl ⟨_, fun X Q h => o_len rfl rfl (g_end (h _ _ ⟨rfl, rfl⟩)), ?_⟩
  refine ob_q rfl rfl ⟨_, fun X Q h => o_assign (g_end (h _ _ ⟨rfl, rfl⟩)), ?_⟩
  refine ob_q rfl rfl ⟨_, fun X Q h => o_assign (g_end (h _ _ ⟨rfl, rfl⟩)), ?_⟩
  refine ob_nil ?_
  repeat (first | refine g_endt ?_ | refine g_end ?_ | refine g_then ?_ | refine g_in_normal ?_ | refine g_then_ret ?_ | refine g_in_ret ?_ | refine g_then_exit ?_ | refine g_in_exit rfl ?_ | refine g_in_exit_ne (by decide) ?_ | refine g_seq ?_ | refine g_region ?_ | refine g_block ?_ | refine g_ret ?_ | refine g_return_n ?_ | refine g_exit ?_ | refine g_skip ?_)
  refine g_loop (σ := {s : Nat × Nat // s.1 ≤ s.2 ∧ s.2 ≤ ys.length ∧ (∀ (j : Nat) (y : PgSI), j < s.1 → ys[j]? = some y → PgSI.cmp y x < 0) ∧ ∀ (j : Nat) (y : PgSI), s.2 ≤ j → ys[j]? = some y → 0 < PgSI.cmp y x})
    (S := fun s => [(0, .pointer (some ⟨p, 0, none⟩)), (3, .pointer (some ⟨q, 0, none⟩)), (6, .int .i64 (s.1.1 : Int)), (7, .int .i64 (s.1.2 : Int))])
    (H := fun _ => [cellsB p #[.slice S ys.length c, .bool b] 145, row 110 PgSI.enc 4 b S c ys, cellsB q x.val.cells 110]) (μ := fun s => s.1.2 - s.1.1)
    (s0 := ⟨(0, ys.length), Nat.zero_le _, Nat.le_refl _, fun j y h => absurd h (Nat.not_lt_zero j), fun j y h e => by rw [List.getElem?_eq_none h] at e; cases e⟩) (Sat.mem ⟨rfl, rfl, rfl, rfl, trivial⟩) ?_
  rintro ⟨⟨lo, hi⟩, h1, h2, h3, h4⟩ ρ'
  dsimp only at h1 h2 h3 h4 ⊢
  repeat (first | refine g_endt ?_ | refine g_end ?_ | refine g_then ?_ | refine g_in_normal ?_ | refine g_then_ret ?_ | refine g_in_ret ?_ | refine g_then_exit ?_ | refine g_in_exit rfl ?_ | refine g_in_exit_ne (by decide) ?_ | refine g_seq ?_ | refine g_region ?_ | refine g_block ?_ | refine g_ret ?_ | refine g_return_n ?_ | refine g_exit ?_ | refine g_skip ?_)
  refine o_move ?_
  refine o_move ?_
  refine o_lss rfl rfl ?_
  first | refine g_endt ?_ | refine g_end ?_
  by_cases h : lo < hi
  · first | refine g_seq (g_cond_t rfl (by simpa using h) ?_) | refine g_cond_t rfl (by simpa using h) ?_
    repeat (first | refine g_endt ?_ | refine g_end ?_ | refine g_then ?_ | refine g_in_normal ?_ | refine g_then_ret ?_ | refine g_in_ret ?_ | refine g_then_exit ?_ | refine g_in_exit rfl ?_ | refine g_in_exit_ne (by decide) ?_ | refine g_seq ?_ | refine g_region ?_ | refine g_block ?_ | refine g_ret ?_ | refine g_return_n ?_ | refine g_exit ?_ | refine g_skip ?_)
    refine o_move ?_
    refine o_move ?_
    refine o_move ?_
    refine o_sub (c := ((hi - lo : Nat) : Int)) rfl rfl (by omega) (by omega) (by omega) ?_
    refine o_quo (c := (((hi - lo) / 2 : Nat) : Int)) rfl rfl (by decide) (by rw [Int.tdiv_eq_ediv_of_nonneg (by omega)]; omega) (by omega) (by omega) ?_
    refine o_add (c := ((lo + (hi - lo) / 2 : Nat) : Int)) rfl rfl (by omega) (by omega) (by omega) ?_
    generalize hmid : lo + (hi - lo) / 2 = mid
    have hm1 : lo ≤ mid := by omega
    have hm2 : mid < hi := by omega
    have hm3 : mid < ys.length := by omega
    obtain ⟨y, hy⟩ : ∃ y, ys[mid]? = some y := ⟨_, List.getElem?_eq_getElem hm3⟩
    refine o_assign ?_
    refine g_endt ?_
    repeat (first | refine g_endt ?_ | refine g_end ?_ | refine g_then ?_ | refine g_in_normal ?_ | refine g_then_ret ?_ | refine g_in_ret ?_ | refine g_then_exit ?_ | refine g_in_exit rfl ?_ | refine g_in_exit_ne (by decide) ?_ | refine g_seq ?_ | refine g_region ?_ | refine g_block ?_ | refine g_ret ?_ | refine g_return_n ?_ | refine g_exit ?_ | refine g_skip ?_)
    refine g_draw [] [0,1,2,3,4,5,6,7,8,9,10] [cellsB p #[.slice S ys.length c, .bool b] 145, row 110 PgSI.enc 4 b S c ys, cellsB q x.val.cells 110] mixed rfl ?_
    refine ob_q rfl rfl ⟨_, fun X Q h => o_move (g_end (h _ _ ⟨rfl, rfl⟩)), ?_⟩
    refine ob_q rfl rfl ⟨_, fun X Q h => o_nil rfl (g_end (h _ _ ⟨rfl, rfl⟩)), ?_⟩
    refine ob_q rfl rfl ⟨_, fun X Q h => o_field rfl (g_end (h _ _ ⟨rfl, rfl⟩)), ?_⟩
    refine ob_q rfl rfl ⟨_, fun X Q h => o_load1 (v := .slice S ys.length c) rfl rfl (g_end (h _ _ ⟨rfl, rfl⟩)), ?_⟩
    refine ob_q rfl rfl ⟨_, fun X Q h => o_move (g_end (h _ _ ⟨rfl, rfl⟩)), ?_⟩
    refine ob_q rfl rfl ⟨_, fun X Q h => o_indexR (ys := ys) (i := mid) rfl rfl rfl hm3 rfl rfl (g_end (h _ _ ⟨rfl, rfl⟩)), ?_⟩
    refine ob_q rfl rfl ⟨_, fun X Q h => o_loadE (ys := ys) rfl rfl hy (g_end (h _ _ ⟨rfl, rfl⟩)), ?_⟩
    refine ob_q rfl rfl ⟨_, fun X Q h => o_iface (u := y.val) rfl (fun w => by kernel_rfl) (g_end (h _ _ ⟨rfl, rfl⟩)), ?_⟩
    refine ob_q rfl rfl ⟨_, fun X Q h => o_loadN (v := x.val) rfl rfl rfl (g_end (h _ _ ⟨rfl, rfl⟩)), ?_⟩
    refine ob_q rfl rfl ⟨_, fun X Q h => o_invoke (PgSI.cmp_spec y x) rfl rfl (fun w => by kernel_rfl) <| by rintro _ _ ⟨rfl, rfl⟩; exact (g_end (h _ _ ⟨rfl, rfl⟩)), ?_⟩
    refine ob_q rfl rfl ⟨_, fun X Q h => o_assign (g_end (h _ _ ⟨rfl, rfl⟩)), ?_⟩
    refine ob_nil ?_
    repeat (first | refine g_endt ?_ | refine g_end ?_ | refine g_then ?_ | refine g_in_normal ?_ | refine g_then_ret ?_ | refine g_in_ret ?_ | refine g_then_exit ?_ | refine g_in_exit rfl ?_ | refine g_in_exit_ne (by decide) ?_ | refine g_seq ?_ | refine g_region ?_ | refine g_block ?_ | refine g_ret ?_ | refine g_return_n ?_ | refine g_exit ?_ | refine g_skip ?_)
    refine o_move ?_
    refine o_eql rfl rfl ?_
    first | refine g_endt ?_ | refine g_end ?_
    by_cases hc : PgSI.cmp y x = 0
    · first | refine g_seq (g_cond_t rfl (by simpa using hc) ?_) | refine g_cond_t rfl (by simpa using hc) ?_
      repeat (first | refine g_endt ?_ | refine g_end ?_ | refine g_then ?_ | refine g_in_normal ?_ | refine g_then_ret ?_ | refine g_in_ret ?_ | refine g_then_exit ?_ | refine g_in_exit rfl ?_ | refine g_in_exit_ne (by decide) ?_ | refine g_seq ?_ | refine g_region ?_ | refine g_block ?_ | refine g_ret ?_ | refine g_return_n ?_ | refine g_exit ?_ | refine g_skip ?_)
      refine o_move ?_
      refine o_assign ?_
      refine o_assign ?_
      first | refine g_endt ?_ | refine g_end ?_
      refine shutSI p ys S c b rfl ?_
      repeat (first | refine g_endt ?_ | refine g_end ?_ | refine g_then ?_ | refine g_in_normal ?_ | refine g_then_ret ?_ | refine g_in_ret ?_ | refine g_then_exit ?_ | refine g_in_exit rfl ?_ | refine g_in_exit_ne (by decide) ?_ | refine g_seq ?_ | refine g_region ?_ | refine g_block ?_ | refine g_ret ?_ | refine g_return_n ?_ | refine g_exit ?_ | refine g_skip ?_)
      exact ret2 rfl (resT rfl) (resT rfl) ⟨mid, true, rfl, rfl, by omega, fun _ => ⟨y, hy, hc⟩, fun e => by cases e⟩
    · first | refine g_seq (g_cond_f rfl (by simpa using hc) ?_) | refine g_cond_f rfl (by simpa using hc) ?_
      repeat (first | refine g_endt ?_ | refine g_end ?_ | refine g_then ?_ | refine g_in_normal ?_ | refine g_then_ret ?_ | refine g_in_ret ?_ | refine g_then_exit ?_ | refine g_in_exit rfl ?_ | refine g_in_exit_ne (by decide) ?_ | refine g_seq ?_ | refine g_region ?_ | refine g_block ?_ | refine g_ret ?_ | refine g_return_n ?_ | refine g_exit ?_ | refine g_skip ?_)
      refine o_move ?_
      refine o_lss rfl rfl ?_
      first | refine g_endt ?_ | refine g_end ?_
      by_cases hn : PgSI.cmp y x < 0
      · first | refine g_seq (g_cond_t rfl (by simpa using hn) ?_) | refine g_cond_t rfl (by simpa using hn) ?_
        repeat (first | refine g_endt ?_ | refine g_end ?_ | refine g_then ?_ | refine g_in_normal ?_ | refine g_then_ret ?_ | refine g_in_ret ?_ | refine g_then_exit ?_ | refine g_in_exit rfl ?_ | refine g_in_exit_ne (by decide) ?_ | refine g_seq ?_ | refine g_region ?_ | refine g_block ?_ | refine g_ret ?_ | refine g_return_n ?_ | refine g_exit ?_ | refine g_skip ?_)
        refine o_move ?_
        refine o_add (c := ((mid + 1 : Nat) : Int)) rfl rfl (by omega) (by omega) (by omega) ?_
        refine o_assign ?_
        first | refine g_endt ?_ | refine g_end ?_
        repeat (first | refine g_endt ?_ | refine g_end ?_ | refine g_then ?_ | refine g_in_normal ?_ | refine g_then_ret ?_ | refine g_in_ret ?_ | refine g_then_exit ?_ | refine g_in_exit rfl ?_ | refine g_in_exit_ne (by decide) ?_ | refine g_seq ?_ | refine g_region ?_ | refine g_block ?_ | refine g_ret ?_ | refine g_return_n ?_ | refine g_exit ?_ | refine g_skip ?_)
        refine g_meets ⟨(mid + 1, hi), by show mid + 1 ≤ hi; omega, h2, fun j y' hj hy' => ?_, h4⟩ (by show hi - (mid + 1) < hi - lo; omega) (Sat.mem ⟨rfl, rfl, rfl, rfl, trivial⟩)
        by_cases e : j = mid
        · subst e; rw [hy] at hy'; cases hy'; exact hn
        · exact PgSI.lin.trans _ _ _ (hs j mid y' y (by dsimp only at hj; omega) hy' hy) hn
      · first | refine g_seq (g_cond_f rfl (by simpa using hn) ?_) | refine g_cond_f rfl (by simpa using hn) ?_
        repeat (first | refine g_endt ?_ | refine g_end ?_ | refine g_then ?_ | refine g_in_normal ?_ | refine g_then_ret ?_ | refine g_in_ret ?_ | refine g_then_exit ?_ | refine g_in_exit rfl ?_ | refine g_in_exit_ne (by decide) ?_ | refine g_seq ?_ | refine g_region ?_ | refine g_block ?_ | refine g_ret ?_ | refine g_return_n ?_ | refine g_exit ?_ | refine g_skip ?_)
        refine o_move ?_
        refine o_assign ?_
        first | refine g_endt ?_ | refine g_end ?_
        repeat (first | refine g_endt ?_ | refine g_end ?_ | refine g_then ?_ | refine g_in_normal ?_ | refine g_then_ret ?_ | refine g_in_ret ?_ | refine g_then_exit ?_ | refine g_in_exit rfl ?_ | refine g_in_exit_ne (by decide) ?_ | refine g_seq ?_ | refine g_region ?_ | refine g_block ?_ | refine g_ret ?_ | refine g_return_n ?_ | refine g_exit ?_ | refine g_skip ?_)
        refine g_meets ⟨(lo, mid), hm1, by show mid ≤ ys.length; omega, h3, fun j y' hj hy' => ?_⟩ (by show mid - lo < hi - lo; omega) (Sat.mem ⟨rfl, rfl, rfl, rfl, trivial⟩)
        by_cases e : j = mid
        · subst e; rw [hy] at hy'; cases hy'; omega
        · have h5 := hs mid j y y' (by dsimp only at hj; omega) hy hy'
          have h6 := PgSI.lin.swap x y
          have h7 := PgSI.lin.trans x y y' (by omega) h5
          have h8 := PgSI.lin.swap x y'
          omega
  · first | refine g_seq (g_cond_f rfl (by simpa using h) ?_) | refine g_cond_f rfl (by simpa using h) ?_
    have e : lo = hi := by omega
    subst e
    repeat (first | refine g_endt ?_ | refine g_end ?_ | refine g_then ?_ | refine g_in_normal ?_ | refine g_then_ret ?_ | refine g_in_ret ?_ | refine g_then_exit ?_ | refine g_in_exit rfl ?_ | refine g_in_exit_ne (by decide) ?_ | refine g_seq ?_ | refine g_region ?_ | refine g_block ?_ | refine g_ret ?_ | refine g_return_n ?_ | refine g_exit ?_ | refine g_skip ?_)
    refine o_move ?_
    refine o_assign ?_
    refine o_assign ?_
    first | refine g_endt ?_ | refine g_end ?_
    refine shutSI p ys S c b rfl ?_
    repeat (first | refine g_endt ?_ | refine g_end ?_ | refine g_then ?_ | refine g_in_normal ?_ | refine g_then_ret ?_ | refine g_in_ret ?_ | refine g_then_exit ?_ | refine g_in_exit rfl ?_ | refine g_in_exit_ne (by decide) ?_ | refine g_seq ?_ | refine g_region ?_ | refine g_block ?_ | refine g_ret ?_ | refine g_return_n ?_ | refine g_exit ?_ | refine g_skip ?_)
    exact ret2 rfl (resT rfl) (resT rfl) ⟨lo, false, rfl, rfl, h2, fun e => (by cases e), fun _ => ⟨h3, h4⟩⟩
end Go.Proofs.Ytlognaddmbolgaa
/- An ordered set's functions, for one type of members: own, Put. -/
namespace Go.Proofs.Ytlognaddmbolgaa
open Go Go.Sl
attribute [local irreducible] Code.wpIn roundPost bodyPostM runL Ret Meets Begin

theorem ownSI_spec (p : Nat) (ys : List PgSI) (hl : ys.length ≤ 1000000000) : Ctr Try.prog 83 [.pointer (some ⟨p, 0, none⟩)] [SetASI p ys]
    (fun _ M => ∃ (S : Option Addr) (c : Nat), M = [cellsB p #[.slice S ys.length c, .bool false] 145, osl 110 PgSI.enc 4 S c ys]) := by
  refine spec_of Try.func83 rfl Try.ntmps83 rfl fun w0 F => ?_
  repeat (first | refine g_endt ?_ | refine g_end ?_ | refine g_then ?_ | refine g_in_normal ?_ | refine g_then_ret ?_ | refine g_in_ret ?_ | refine g_then_exit ?_ | refine g_in_exit rfl ?_ | refine g_in_exit_ne (by decide) ?_ | refine g_seq ?_ | refine g_region ?_ | refine g_block ?_ | refine g_ret ?_ | refine g_return_n ?_ | refine g_exit ?_ | refine g_skip ?_)
  refine openSI p ys fun S c b => ?_
  refine o_move ?_
  refine o_nil rfl ?_
  refine o_field rfl ?_
  refine o_load1 (v := .bool b) rfl rfl ?_
  refine g_endt ?_
  cases b
  · first | refine g_seq (g_cond_f rfl (rfl) ?_) | refine g_cond_f rfl (rfl) ?_
    change G _ _ [cellsB p #[.slice S ys.length c, .bool false] 145, osl 110 PgSI.enc 4 S c ys] _
    repeat (first | refine g_endt ?_ | refine g_end ?_ | refine g_then ?_ | refine g_in_normal ?_ | refine g_then_ret ?_ | refine g_in_ret ?_ | refine g_then_exit ?_ | refine g_in_exit rfl ?_ | refine g_in_exit_ne (by decide) ?_ | refine g_seq ?_ | refine g_region ?_ | refine g_block ?_ | refine g_ret ?_ | refine g_return_n ?_ | refine g_exit ?_ | refine g_skip ?_)
    exact ret0 rfl ⟨S, c, rfl⟩
  · first | refine g_seq (g_cond_t rfl (rfl) ?_) | refine g_cond_t rfl (rfl) ?_
    change G _ _ [cellsB p #[.slice S ys.length c, .bool true] 145, psl PgSI.enc 4 S ys] _
    repeat (first | refine g_endt ?_ | refine g_end ?_ | refine g_then ?_ | refine g_in_normal ?_ | refine g_then_ret ?_ | refine g_in_ret ?_ | refine g_then_exit ?_ | refine g_in_exit rfl ?_ | refine g_in_exit_ne (by decide) ?_ | refine g_seq ?_ | refine g_region ?_ | refine g_block ?_ | refine g_ret ?_ | refine g_return_n ?_ | refine g_exit ?_ | refine g_skip ?_)
    refine g_draw [7, 12, 15] [0,1,2,3,4,5,6,8,9,10,11,7,12,13,14,15] [cellsB p #[.slice S ys.length c, .bool true] 145, psl PgSI.enc 4 S ys] mixed rfl ?_
    refine ob_q rfl rfl ⟨_, fun X Q h => o_move (g_end (h _ _ ⟨rfl, rfl⟩)), ?_⟩
    refine ob_q rfl rfl ⟨_, fun X Q h => o_move (g_end (h _ _ ⟨rfl, rfl⟩)), ?_⟩
    refine ob_q rfl rfl ⟨_, fun X Q h => o_nil rfl (g_end (h _ _ ⟨rfl, rfl⟩)), ?_⟩
    refine ob_q rfl rfl ⟨_, fun X Q h => o_field rfl (g_end (h _ _ ⟨rfl, rfl⟩)), ?_⟩
    refine ob_q rfl rfl ⟨_, fun X Q h => o_load1 (v := .slice S ys.length c) rfl rfl (g_end (h _ _ ⟨rfl, rfl⟩)), ?_⟩
    refine ob_q rfl rfl ⟨_, fun X Q h => o_len rfl rfl (g_end (h _ _ ⟨rfl, rfl⟩)), ?_⟩
    refine ob_q rfl rfl ⟨_, fun X Q h => o_add (c := ((ys.length + 1 : Nat) : Int)) rfl rfl (by omega) (by omega) (by omega) (g_end (h _ _ ⟨rfl, rfl⟩)), ?_⟩
    refine ob_q rfl rfl ⟨_, fun X Q h => o_move (g_end (h _ _ ⟨rfl, rfl⟩)), ?_⟩
    refine ob_q rfl rfl ⟨_, fun X Q h => o_nil rfl (g_end (h _ _ ⟨rfl, rfl⟩)), ?_⟩
    refine ob_q rfl rfl ⟨_, fun X Q h => o_field rfl (g_end (h _ _ ⟨rfl, rfl⟩)), ?_⟩
    refine ob_q rfl rfl ⟨_, fun X Q h => o_load1 (v := .slice S ys.length c) rfl rfl (g_end (h _ _ ⟨rfl, rfl⟩)), ?_⟩
    refine ob_l rfl rfl fun Qz hz => o_make0 (α := PgSI) (enc := PgSI.enc) rfl rfl rfl (by omega) (by simp [maxLen]; omega) fun T => g_end (hz _ _ ⟨_, ob_fin, ?_⟩)
    clear hz Qz
    refine ob_l rfl rfl fun Qz hz => o_append0 (ys := ys) rfl rfl rfl rfl rfl (by simp [maxLen]; omega) (by omega) fun U d => g_end (hz _ _ ⟨_, ob_fin, ?_⟩)
    clear hz Qz
    refine ob_q rfl rfl ⟨_, fun X Q h => o_nil rfl (g_end (h _ _ ⟨rfl, rfl⟩)), ?_⟩
    refine ob_q rfl rfl ⟨_, fun X Q h => o_field rfl (g_end (h _ _ ⟨rfl, rfl⟩)), ?_⟩
    refine ob_s ([]) rfl rfl rfl fun Qz hz => o_store (v := .slice U ys.length d) rfl rfl rfl rfl rfl <| g_end (hz _ _ ⟨_, ob_fin, ?_⟩)
    clear hz Qz
    refine ob_nil ?_
    repeat (first | refine g_endt ?_ | refine g_end ?_ | refine g_then ?_ | refine g_in_normal ?_ | refine g_then_ret ?_ | refine g_in_ret ?_ | refine g_then_exit ?_ | refine g_in_exit rfl ?_ | refine g_in_exit_ne (by decide) ?_ | refine g_seq ?_ | refine g_region ?_ | refine g_block ?_ | refine g_ret ?_ | refine g_return_n ?_ | refine g_exit ?_ | refine g_skip ?_)
    refine o_move ?_
    refine o_nil rfl ?_
    refine o_field rfl ?_
    refine o_store rfl rfl rfl rfl rfl ?_
    first | refine g_endt ?_ | refine g_end ?_
    repeat (first | refine g_endt ?_ | refine g_end ?_ | refine g_then ?_ | refine g_in_normal ?_ | refine g_then_ret ?_ | refine g_in_ret ?_ | refine g_then_exit ?_ | refine g_in_exit rfl ?_ | refine g_in_exit_ne (by decide) ?_ | refine g_seq ?_ | refine g_region ?_ | refine g_block ?_ | refine g_ret ?_ | refine g_return_n ?_ | refine g_exit ?_ | refine g_skip ?_)
    refine G.norm p #[.slice U ys.length d, .bool false] rfl ?_
    exact ret0 rfl ⟨U, d, rfl⟩
end Go.Proofs.Ytlognaddmbolgaa
/- An ordered set's functions, for one type of members: Put. -/
namespace Go.Proofs.Ytlognaddmbolgaa
open Go Go.Sl
attribute [local irreducible] Code.wpIn roundPost bodyPostM runL Ret Meets Begin

theorem take_snocPSI {α : Type} (ys : List α) (i : Nat) (y : α) (h : ys[i]? = some y) : ys.take (i + 1) = ys.take i ++ [y] := by rw [List.take_add_one, h]; rfl
theorem gapSI (ys : List PgSI) (i : Nat) (w y : PgSI) (hi : i < ys.length) (hy : ys[i]? = some y) : (ys.take (i + 1) ++ w :: ys.drop (i + 1)).set (i + 1) y = ys.take i ++ y :: ys.drop i := by
  have h1 : (ys.take (i + 1)).length = i + 1 := by simp; omega
  have h2 : ys.drop i = y :: ys.drop (i + 1) := by
    rw [List.drop_eq_getElem_cons hi]
    rw [List.getElem?_eq_getElem hi] at hy
    cases hy
    rfl
  rw [List.set_append_right _ _ (by omega), h1, Nat.sub_self, List.set_cons_zero, take_snocPSI ys i y hy, h2]
  simp
theorem PutSI_spec (p : Nat) (ys : List PgSI) (x : PgSI) (hs : Srt PgSI.cmp ys) (hl : ys.length < 1000000000) : Ctr Try.prog 57 [.pointer (some ⟨p, 0, none⟩), x.val] [SetASI p ys]
    (fun v M => ∃ (k : Nat) (there : Bool), v = .bool !there ∧ M = [SetASI p (cond there ys (ys.take k ++ x :: ys.drop k))] ∧ FindR PgSI.cmp ys x k there) := by
  refine spec_of Try.func57 rfl Try.ntmps57 rfl fun w0 F => ?_
  repeat (first | refine g_endt ?_ | refine g_end ?_ | refine g_then ?_ | refine g_in_normal ?_ | refine g_then_ret ?_ | refine g_in_ret ?_ | refine g_then_exit ?_ | refine g_in_exit rfl ?_ | refine g_in_exit_ne (by decide) ?_ | refine g_seq ?_ | refine g_region ?_ | refine g_block ?_ | refine g_ret ?_ | refine g_return_n ?_ | refine g_exit ?_ | refine g_skip ?_)
  refine o_boxc x.val.cells rfl rfl fun q => ?_
  refine o_assign ?_
  first | refine g_endt ?_ | refine g_end ?_
  repeat (first | refine g_endt ?_ | refine g_end ?_ | refine g_then ?_ | refine g_in_normal ?_ | refine g_then_ret ?_ | refine g_in_ret ?_ | refine g_then_exit ?_ | refine g_in_exit rfl ?_ | refine g_in_exit_ne (by decide) ?_ | refine g_seq ?_ | refine g_region ?_ | refine g_block ?_ | refine g_ret ?_ | refine g_return_n ?_ | refine g_exit ?_ | refine g_skip ?_)
  refine o_move ?_
  refine o_peql rfl ?_
  first | refine g_endt ?_ | refine g_end ?_
  first | refine g_seq (g_cond_f rfl (rfl) ?_) | refine g_cond_f rfl (rfl) ?_
  repeat (first | refine g_endt ?_ | refine g_end ?_ | refine g_then ?_ | refine g_in_normal ?_ | refine g_then_ret ?_ | refine g_in_ret ?_ | refine g_then_exit ?_ | refine g_in_exit rfl ?_ | refine g_in_exit_ne (by decide) ?_ | refine g_seq ?_ | refine g_region ?_ | refine g_block ?_ | refine g_ret ?_ | refine g_return_n ?_ | refine g_exit ?_ | refine g_skip ?_)
  refine o_move ?_
  refine o_loadN (v := x.val) rfl rfl rfl ?_
  refine o_call (findSI_spec p ys x hs (by omega)) rfl rfl ?_
  rintro _ _ ⟨k, there, rfl, rfl, hk⟩
  refine o_move ?_
  refine o_extract rfl rfl ?_
  refine o_extract rfl rfl ?_
  refine o_assign ?_
  refine o_assign ?_
  first | refine g_endt ?_ | refine g_end ?_
  repeat (first | refine g_endt ?_ | refine g_end ?_ | refine g_then ?_ | refine g_in_normal ?_ | refine g_then_ret ?_ | refine g_in_ret ?_ | refine g_then_exit ?_ | refine g_in_exit rfl ?_ | refine g_in_exit_ne (by decide) ?_ | refine g_seq ?_ | refine g_region ?_ | refine g_block ?_ | refine g_ret ?_ | refine g_return_n ?_ | refine g_exit ?_ | refine g_skip ?_)
  refine o_move ?_
  refine g_endt ?_
  cases there
  case true =>
    first | refine g_seq (g_cond_t rfl (rfl) ?_) | refine g_cond_t rfl (rfl) ?_
    repeat (first | refine g_endt ?_ | refine g_end ?_ | refine g_then ?_ | refine g_in_normal ?_ | refine g_then_ret ?_ | refine g_in_ret ?_ | refine g_then_exit ?_ | refine g_in_exit rfl ?_ | refine g_in_exit_ne (by decide) ?_ | refine g_seq ?_ | refine g_region ?_ | refine g_block ?_ | refine g_ret ?_ | refine g_return_n ?_ | refine g_exit ?_ | refine g_skip ?_)
    refine o_assign ?_
    first | refine g_endt ?_ | refine g_end ?_
    repeat (first | refine g_endt ?_ | refine g_end ?_ | refine g_then ?_ | refine g_in_normal ?_ | refine g_then_ret ?_ | refine g_in_ret ?_ | refine g_then_exit ?_ | refine g_in_exit rfl ?_ | refine g_in_exit_ne (by decide) ?_ | refine g_seq ?_ | refine g_region ?_ | refine g_block ?_ | refine g_ret ?_ | refine g_return_n ?_ | refine g_exit ?_ | refine g_skip ?_)
    exact ret1 (K := [SetASI p ys]) rfl (resT rfl) ⟨k, true, rfl, rfl, hk⟩
  first | refine g_seq (g_cond_f rfl (rfl) ?_) | refine g_cond_f rfl (rfl) ?_
  repeat (first | refine g_endt ?_ | refine g_end ?_ | refine g_then ?_ | refine g_in_normal ?_ | refine g_then_ret ?_ | refine g_in_ret ?_ | refine g_then_exit ?_ | refine g_in_exit rfl ?_ | refine g_in_exit_ne (by decide) ?_ | refine g_seq ?_ | refine g_region ?_ | refine g_block ?_ | refine g_ret ?_ | refine g_return_n ?_ | refine g_exit ?_ | refine g_skip ?_)
  refine o_move ?_
  refine o_call (ownSI_spec p ys (by omega)) rfl rfl ?_
  rintro _ _ ⟨S, c, rfl⟩
  refine g_endt ?_
  repeat (first | refine g_endt ?_ | refine g_end ?_ | refine g_then ?_ | refine g_in_normal ?_ | refine g_then_ret ?_ | refine g_in_ret ?_ | refine g_then_exit ?_ | refine g_in_exit rfl ?_ | refine g_in_exit_ne (by decide) ?_ | refine g_seq ?_ | refine g_region ?_ | refine g_block ?_ | refine g_ret ?_ | refine g_return_n ?_ | refine g_exit ?_ | refine g_skip ?_)
  refine g_draw [6, 7, 10] [0,1,2,3,4,5,6,7,8,9,10] [cellsB p #[.slice S ys.length c, .bool false] 145, cellsB q x.val.cells 110] mixed rfl ?_
  refine ob_q rfl rfl ⟨_, fun X Q h => o_move (g_end (h _ _ ⟨rfl, rfl⟩)), ?_⟩
  refine ob_q rfl rfl ⟨_, fun X Q h => o_move (g_end (h _ _ ⟨rfl, rfl⟩)), ?_⟩
  refine ob_q rfl rfl ⟨_, fun X Q h => o_nil rfl (g_end (h _ _ ⟨rfl, rfl⟩)), ?_⟩
  refine ob_q rfl rfl ⟨_, fun X Q h => o_field rfl (g_end (h _ _ ⟨rfl, rfl⟩)), ?_⟩
  refine ob_q rfl rfl ⟨_, fun X Q h => o_load1 (v := .slice S ys.length c) rfl rfl (g_end (h _ _ ⟨rfl, rfl⟩)), ?_⟩
  refine ob_q rfl rfl ⟨_, fun X Q h => o_loadN (v := x.val) rfl rfl rfl (g_end (h _ _ ⟨rfl, rfl⟩)), ?_⟩
  refine ob_l rfl rfl fun Qz hz => o_slice_lit (e := 110) x.val.cells (fun w => by kernel_rfl) fun g => G.lit_slice (enc := PgSI.enc) (sz := 4) [x] (by simp [PgSI.enc]) (by simp [maxLen]) <| G.freeze_slice <| g_end (hz _ _ ⟨_, ob_fin, ?_⟩)
  clear hz Qz
  refine ob_l rfl rfl fun Qz hz => o_append (xs := ys) (ys := [x]) rfl rfl rfl rfl rfl (fun _ => .inr trivial) (by simp [maxLen]; omega) (by simp; omega) fun U d => g_end (hz _ _ ⟨_, ob_fin, ?_⟩)
  clear hz Qz
  refine ob_q rfl rfl ⟨_, fun X Q h => o_nil rfl (g_end (h _ _ ⟨rfl, rfl⟩)), ?_⟩
  refine ob_q rfl rfl ⟨_, fun X Q h => o_field rfl (g_end (h _ _ ⟨rfl, rfl⟩)), ?_⟩
  refine ob_s ([]) rfl rfl rfl fun Qz hz => o_store (v := .slice U (ys.length + 1) d) rfl rfl rfl rfl rfl <| g_end (hz _ _ ⟨_, ob_fin, ?_⟩)
  clear hz Qz
  refine ob_nil ?_
  refine G.norm p #[.slice U (ys.length + 1) d, .bool false] rfl ?_
  repeat (first | refine g_endt ?_ | refine g_end ?_ | refine g_then ?_ | refine g_in_normal ?_ | refine g_then_ret ?_ | refine g_in_ret ?_ | refine g_then_exit ?_ | refine g_in_exit rfl ?_ | refine g_in_exit_ne (by decide) ?_ | refine g_seq ?_ | refine g_region ?_ | refine g_block ?_ | refine g_ret ?_ | refine g_return_n ?_ | refine g_exit ?_ | refine g_skip ?_)
  refine o_move ?_
  refine o_nil rfl ?_
  refine o_field rfl ?_
  refine o_load1 (v := .slice U (ys.length + 1) d) rfl rfl ?_
  refine o_len rfl rfl ?_
  refine o_sub (c := ((ys.length : Nat) : Int)) rfl rfl (by omega) (by omega) (by omega) ?_
  refine o_assign ?_
  refine g_endt ?_
  repeat (first | refine g_endt ?_ | refine g_end ?_ | refine g_then ?_ | refine g_in_normal ?_ | refine g_then_ret ?_ | refine g_in_ret ?_ | refine g_then_exit ?_ | refine g_in_exit rfl ?_ | refine g_in_exit_ne (by decide) ?_ | refine g_seq ?_ | refine g_region ?_ | refine g_block ?_ | refine g_ret ?_ | refine g_return_n ?_ | refine g_exit ?_ | refine g_skip ?_)
  have hk1 : k ≤ ys.length := hk.1
  refine g_loop (σ := {s : Nat × PgSI // k ≤ s.1 ∧ s.1 ≤ ys.length})
    (S := fun s => [(0, .pointer (some ⟨p, 0, none⟩)), (3, .pointer (some ⟨q, 0, none⟩)), (5, .int .i64 (k : Int)), (7, .int .i64 (s.1.1 : Int))])
    (H := fun s => [cellsB p #[.slice U (ys.length + 1) d, .bool false] 145, cellsB q x.val.cells 110, osl 110 PgSI.enc 4 U d (ys.take s.1.1 ++ s.1.2 :: ys.drop s.1.1)]) (μ := fun s => s.1.1)
    (s0 := ⟨(ys.length, x), hk1, Nat.le_refl _⟩) (Sat.mem ⟨rfl, rfl, rfl, rfl, trivial⟩) (t := by simp only [List.take_length, List.drop_length]; infer_instance) ?_
  rintro ⟨⟨i, w⟩, h1, h2⟩ ρ'
  dsimp only at h1 h2 ⊢
  have hlen : (ys.take i ++ w :: ys.drop i).length = ys.length + 1 := by simp; omega
  repeat (first | refine g_endt ?_ | refine g_end ?_ | refine g_then ?_ | refine g_in_normal ?_ | refine g_then_ret ?_ | refine g_in_ret ?_ | refine g_then_exit ?_ | refine g_in_exit rfl ?_ | refine g_in_exit_ne (by decide) ?_ | refine g_seq ?_ | refine g_region ?_ | refine g_block ?_ | refine g_ret ?_ | refine g_return_n ?_ | refine g_exit ?_ | refine g_skip ?_)
  refine o_move ?_
  refine o_move ?_
  refine o_gtr rfl rfl ?_
  first | refine g_endt ?_ | refine g_end ?_
  by_cases h : k < i
  · first | refine g_seq (g_cond_t rfl (by simpa using h) ?_) | refine g_cond_t rfl (by simpa using h) ?_
    repeat (first | refine g_endt ?_ | refine g_end ?_ | refine g_then ?_ | refine g_in_normal ?_ | refine g_then_ret ?_ | refine g_in_ret ?_ | refine g_then_exit ?_ | refine g_in_exit rfl ?_ | refine g_in_exit_ne (by decide) ?_ | refine g_seq ?_ | refine g_region ?_ | refine g_block ?_ | refine g_ret ?_ | refine g_return_n ?_ | refine g_exit ?_ | refine g_skip ?_)
    obtain ⟨i, rfl⟩ : ∃ j, i = j + 1 := ⟨i - 1, by omega⟩
    have hi : i < ys.length := by omega
    obtain ⟨y, hy⟩ : ∃ y, ys[i]? = some y := ⟨_, List.getElem?_eq_getElem hi⟩
    have hz : (ys.take (i + 1) ++ w :: ys.drop (i + 1))[i]? = some y := by
      rw [List.getElem?_append_left (by simp; omega), List.getElem?_take, if_pos (by omega), hy]
    refine g_draw [14] [0,1,2,3,4,5,6,7,8,9,10,11,12,13,14] [cellsB p #[.slice U (ys.length + 1) d, .bool false] 145, osl 110 PgSI.enc 4 U d (ys.take (i + 1) ++ w :: ys.drop (i + 1))] mixed rfl ?_
    refine ob_q rfl rfl ⟨_, fun X Q h => o_move (g_end (h _ _ ⟨rfl, rfl⟩)), ?_⟩
    refine ob_q rfl rfl ⟨_, fun X Q h => o_nil rfl (g_end (h _ _ ⟨rfl, rfl⟩)), ?_⟩
    refine ob_q rfl rfl ⟨_, fun X Q h => o_field rfl (g_end (h _ _ ⟨rfl, rfl⟩)), ?_⟩
    refine ob_q rfl rfl ⟨_, fun X Q h => o_load1 (v := .slice U (ys.length + 1) d) rfl rfl (g_end (h _ _ ⟨rfl, rfl⟩)), ?_⟩
    refine ob_q rfl rfl ⟨_, fun X Q h => o_move (g_end (h _ _ ⟨rfl, rfl⟩)), ?_⟩
    refine ob_q rfl rfl ⟨_, fun X Q h => o_move (g_end (h _ _ ⟨rfl, rfl⟩)), ?_⟩
    refine ob_q rfl rfl ⟨_, fun X Q h => o_nil rfl (g_end (h _ _ ⟨rfl, rfl⟩)), ?_⟩
    refine ob_q rfl rfl ⟨_, fun X Q h => o_field rfl (g_end (h _ _ ⟨rfl, rfl⟩)), ?_⟩
    refine ob_q rfl rfl ⟨_, fun X Q h => o_load1 (v := .slice U (ys.length + 1) d) rfl rfl (g_end (h _ _ ⟨rfl, rfl⟩)), ?_⟩
    refine ob_q rfl rfl ⟨_, fun X Q h => o_move (g_end (h _ _ ⟨rfl, rfl⟩)), ?_⟩
    refine ob_q rfl rfl ⟨_, fun X Q h => o_sub (c := ((i : Nat) : Int)) rfl rfl (by omega) (by omega) (by omega) (g_end (h _ _ ⟨rfl, rfl⟩)), ?_⟩
    refine ob_q rfl rfl ⟨_, fun X Q h => o_indexR (i := i) rfl rfl rfl (by omega) hlen rfl (g_end (h _ _ ⟨rfl, rfl⟩)), ?_⟩
    refine ob_q rfl rfl ⟨_, fun X Q h => o_loadE (enc := PgSI.enc) rfl rfl hz (g_end (h _ _ ⟨rfl, rfl⟩)), ?_⟩
    refine ob_q rfl rfl ⟨_, fun X Q h => o_indexR (i := i + 1) rfl rfl rfl (by omega) hlen rfl (g_end (h _ _ ⟨rfl, rfl⟩)), ?_⟩
    refine ob_s ([]) rfl rfl rfl fun Qz hz => o_storeE (e := 110) (c := d) (v := y.val) (z := y) (i := i + 1) (enc := PgSI.enc) (xs := ys.take (i + 1) ++ w :: ys.drop (i + 1)) rfl rfl rfl rfl (by omega) <| g_end (hz _ _ ⟨_, ob_fin, ?_⟩)
    clear hz Qz
    refine ob_nil ?_
    rw [gapSI ys i w y hi hy]
    repeat (first | refine g_endt ?_ | refine g_end ?_ | refine g_then ?_ | refine g_in_normal ?_ | refine g_then_ret ?_ | refine g_in_ret ?_ | refine g_then_exit ?_ | refine g_in_exit rfl ?_ | refine g_in_exit_ne (by decide) ?_ | refine g_seq ?_ | refine g_region ?_ | refine g_block ?_ | refine g_ret ?_ | refine g_return_n ?_ | refine g_exit ?_ | refine g_skip ?_)
    refine o_move ?_
    refine o_sub (c := ((i : Nat) : Int)) rfl rfl (by omega) (by omega) (by omega) ?_
    refine o_assign ?_
    refine g_endt ?_
    repeat (first | refine g_endt ?_ | refine g_end ?_ | refine g_then ?_ | refine g_in_normal ?_ | refine g_then_ret ?_ | refine g_in_ret ?_ | refine g_then_exit ?_ | refine g_in_exit rfl ?_ | refine g_in_exit_ne (by decide) ?_ | refine g_seq ?_ | refine g_region ?_ | refine g_block ?_ | refine g_ret ?_ | refine g_return_n ?_ | refine g_exit ?_ | refine g_skip ?_)
    exact g_meets ⟨(i, y), by show k ≤ i; omega, by show i ≤ ys.length; omega⟩ (by show i < i + 1; omega) (Sat.mem ⟨rfl, rfl, rfl, rfl, trivial⟩)
  · first | refine g_seq (g_cond_f rfl (by simpa using h) ?_) | refine g_cond_f rfl (by simpa using h) ?_
    have e : i = k := by omega
    subst e
    repeat (first | refine g_endt ?_ | refine g_end ?_ | refine g_then ?_ | refine g_in_normal ?_ | refine g_then_ret ?_ | refine g_in_ret ?_ | refine g_then_exit ?_ | refine g_in_exit rfl ?_ | refine g_in_exit_ne (by decide) ?_ | refine g_seq ?_ | refine g_region ?_ | refine g_block ?_ | refine g_ret ?_ | refine g_return_n ?_ | refine g_exit ?_ | refine g_skip ?_)
    refine g_draw [7] [0,1,2,3,4,5,6,7] [cellsB p #[.slice U (ys.length + 1) d, .bool false] 145, osl 110 PgSI.enc 4 U d (ys.take i ++ w :: ys.drop i), cellsB q x.val.cells 110] mixed rfl ?_
    refine ob_q rfl rfl ⟨_, fun X Q h => o_move (g_end (h _ _ ⟨rfl, rfl⟩)), ?_⟩
    refine ob_q rfl rfl ⟨_, fun X Q h => o_nil rfl (g_end (h _ _ ⟨rfl, rfl⟩)), ?_⟩
    refine ob_q rfl rfl ⟨_, fun X Q h => o_field rfl (g_end (h _ _ ⟨rfl, rfl⟩)), ?_⟩
    refine ob_q rfl rfl ⟨_, fun X Q h => o_load1 (v := .slice U (ys.length + 1) d) rfl rfl (g_end (h _ _ ⟨rfl, rfl⟩)), ?_⟩
    refine ob_q rfl rfl ⟨_, fun X Q h => o_move (g_end (h _ _ ⟨rfl, rfl⟩)), ?_⟩
    refine ob_q rfl rfl ⟨_, fun X Q h => o_loadN (v := x.val) rfl rfl rfl (g_end (h _ _ ⟨rfl, rfl⟩)), ?_⟩
    refine ob_q rfl rfl ⟨_, fun X Q h => o_indexR (i := i) rfl rfl rfl (by omega) hlen rfl (g_end (h _ _ ⟨rfl, rfl⟩)), ?_⟩
    refine ob_s ([]) rfl rfl rfl fun Qz hz => o_storeE (e := 110) (c := d) (v := x.val) (z := x) (i := i) (enc := PgSI.enc) (xs := ys.take i ++ w :: ys.drop i) rfl rfl rfl rfl (by omega) <| g_end (hz _ _ ⟨_, ob_fin, ?_⟩)
    clear hz Qz
    refine ob_nil ?_
    have hset : (ys.take i ++ w :: ys.drop i).set i x = ys.take i ++ x :: ys.drop i := by
      have h3 : (ys.take i).length = i := by simp; omega
      rw [List.set_append_right _ _ (by omega), h3, Nat.sub_self, List.set_cons_zero]
    rw [hset]
    repeat (first | refine g_endt ?_ | refine g_end ?_ | refine g_then ?_ | refine g_in_normal ?_ | refine g_then_ret ?_ | refine g_in_ret ?_ | refine g_then_exit ?_ | refine g_in_exit rfl ?_ | refine g_in_exit_ne (by decide) ?_ | refine g_seq ?_ | refine g_region ?_ | refine g_block ?_ | refine g_ret ?_ | refine g_return_n ?_ | refine g_exit ?_ | refine g_skip ?_)
    refine o_assign ?_
    first | refine g_endt ?_ | refine g_end ?_
    refine shutFSI p (ys.take i ++ x :: ys.drop i) U d (len := ys.length + 1) (by simp; omega) ?_
    repeat (first | refine g_endt ?_ | refine g_end ?_ | refine g_then ?_ | refine g_in_normal ?_ | refine g_then_ret ?_ | refine g_in_ret ?_ | refine g_then_exit ?_ | refine g_in_exit rfl ?_ | refine g_in_exit_ne (by decide) ?_ | refine g_seq ?_ | refine g_region ?_ | refine g_block ?_ | refine g_ret ?_ | refine g_return_n ?_ | refine g_exit ?_ | refine g_skip ?_)
    exact ret1 (K := [SetASI p (ys.take i ++ x :: ys.drop i)]) rfl (resT rfl) ⟨i, false, rfl, rfl, hk⟩
end Go.Proofs.Ytlognaddmbolgaa
/- An ordered set's functions, for one type of members: told in order; made; how many; at a place. -/
namespace Go.Proofs.Ytlognaddmbolgaa
open Go Go.Sl
attribute [local irreducible] Code.wpIn roundPost bodyPostM runL Ret Meets Begin

theorem fromSI_spec (p k : Nat) (ys : List PgSI) (hl : ys.length < 1000000000) (hk : k ≤ ys.length) (l : Nat) (J Jx : List PgSI → List SProp) {M : List SProp} [tk : Take1 (J []) (SetASI p ys) M]
    (hy : ∀ pre x, (pre ++ [x]) <+: ys.drop k → Sl.Yields Try.prog l (PgSI.enc' x) (J pre) (J (pre ++ [x])) (Jx (pre ++ [x]))) :
    Ctr Try.prog 81 [.pointer (some ⟨p, 0, none⟩), .int .i64 (k : Int), .func (.yield l) #[] #[]] (J []) (fun _ L' => L' = J (ys.drop k) ∨ ∃ pre, pre <+: ys.drop k ∧ L' = Jx pre) := by
  refine spec_of Try.func81 rfl Try.ntmps81 rfl fun w0 F => ?_
  repeat (first | refine g_endt ?_ | refine g_end ?_ | refine g_then ?_ | refine g_in_normal ?_ | refine g_then_ret ?_ | refine g_in_ret ?_ | refine g_then_exit ?_ | refine g_in_exit rfl ?_ | refine g_in_exit_ne (by decide) ?_ | refine g_seq ?_ | refine g_region ?_ | refine g_block ?_ | refine g_ret ?_ | refine g_return_n ?_ | refine g_exit ?_ | refine g_skip ?_)
  refine openSI p ys fun S c b => ?_
  refine o_move ?_
  refine o_nil rfl ?_
  refine o_field rfl ?_
  refine o_store (v := .bool true) rfl rfl rfl rfl rfl ?_
  refine g_endt ?_
  refine G.norm p #[.slice S ys.length c, .bool true] rfl ?_
  refine G.bring [row 110 PgSI.enc 4 b S c ys] ?_
  refine G.see1 ?_
  repeat (first | refine g_endt ?_ | refine g_end ?_ | refine g_then ?_ | refine g_in_normal ?_ | refine g_then_ret ?_ | refine g_in_ret ?_ | refine g_then_exit ?_ | refine g_in_exit rfl ?_ | refine g_in_exit_ne (by decide) ?_ | refine g_seq ?_ | refine g_region ?_ | refine g_block ?_ | refine g_ret ?_ | refine g_return_n ?_ | refine g_exit ?_ | refine g_skip ?_)
  refine o_move ?_
  refine o_nil rfl ?_
  refine o_field rfl ?_
  refine o_load1 (v := .slice S ys.length c) rfl rfl ?_
  refine o_assign ?_
  refine g_endt ?_
  refine G.dup (psl PgSI.enc 4 S ys) ?_
  refine shutTSI p ys S c rfl ?_
  repeat (first | refine g_endt ?_ | refine g_end ?_ | refine g_then ?_ | refine g_in_normal ?_ | refine g_then_ret ?_ | refine g_in_ret ?_ | refine g_then_exit ?_ | refine g_in_exit rfl ?_ | refine g_in_exit_ne (by decide) ?_ | refine g_seq ?_ | refine g_region ?_ | refine g_block ?_ | refine g_ret ?_ | refine g_return_n ?_ | refine g_exit ?_ | refine g_skip ?_)
  refine o_move ?_
  refine o_assign ?_
  first | refine g_endt ?_ | refine g_end ?_
  repeat (first | refine g_endt ?_ | refine g_end ?_ | refine g_then ?_ | refine g_in_normal ?_ | refine g_then_ret ?_ | refine g_in_ret ?_ | refine g_then_exit ?_ | refine g_in_exit rfl ?_ | refine g_in_exit_ne (by decide) ?_ | refine g_seq ?_ | refine g_region ?_ | refine g_block ?_ | refine g_ret ?_ | refine g_return_n ?_ | refine g_exit ?_ | refine g_skip ?_)
  refine g_loop (σ := {i : Nat // k ≤ i ∧ i ≤ ys.length}) (S := fun i => [(2, .func (.yield l) #[] #[]), (6, .slice S ys.length c), (7, .int .i64 (i.1 : Int))])
    (H := fun i => psl PgSI.enc 4 S ys :: J ((ys.drop k).take (i.1 - k))) (μ := fun i => ys.length - i.1) (s0 := ⟨k, Nat.le_refl _, hk⟩) (Sat.mem ⟨rfl, rfl, rfl, trivial⟩)
    (t := by simp only [Nat.sub_self, List.take_zero]; exact Take.setback) ?_
  rintro ⟨i, h1, h2⟩ ρ'
  dsimp only at h1 h2 ⊢
  repeat (first | refine g_endt ?_ | refine g_end ?_ | refine g_then ?_ | refine g_in_normal ?_ | refine g_then_ret ?_ | refine g_in_ret ?_ | refine g_then_exit ?_ | refine g_in_exit rfl ?_ | refine g_in_exit_ne (by decide) ?_ | refine g_seq ?_ | refine g_region ?_ | refine g_block ?_ | refine g_ret ?_ | refine g_return_n ?_ | refine g_exit ?_ | refine g_skip ?_)
  refine o_move ?_
  refine o_move ?_
  refine o_len rfl rfl ?_
  refine o_lss rfl rfl ?_
  first | refine g_endt ?_ | refine g_end ?_
  by_cases h : i < ys.length
  · first | refine g_seq (g_cond_t rfl (by simpa using h) ?_) | refine g_cond_t rfl (by simpa using h) ?_
    repeat (first | refine g_endt ?_ | refine g_end ?_ | refine g_then ?_ | refine g_in_normal ?_ | refine g_then_ret ?_ | refine g_in_ret ?_ | refine g_then_exit ?_ | refine g_in_exit rfl ?_ | refine g_in_exit_ne (by decide) ?_ | refine g_seq ?_ | refine g_region ?_ | refine g_block ?_ | refine g_ret ?_ | refine g_return_n ?_ | refine g_exit ?_ | refine g_skip ?_)
    obtain ⟨y, hz⟩ : ∃ y, ys[i]? = some y := ⟨_, List.getElem?_eq_getElem h⟩
    have ht : (ys.drop k).take (i + 1 - k) = (ys.drop k).take (i - k) ++ [y] := by
      rw [show i + 1 - k = (i - k) + 1 by omega]
      exact take_snocPSI _ _ _ (by rw [List.getElem?_drop, show k + (i - k) = i by omega, hz])
    have hp : ((ys.drop k).take (i - k) ++ [y]) <+: ys.drop k := ⟨(ys.drop k).drop (i + 1 - k), by rw [← ht, List.take_append_drop]⟩
    refine o_move ?_
    refine o_move ?_
    refine o_move ?_
    refine o_indexR (i := i) rfl rfl rfl h rfl rfl ?_
    refine o_loadE (enc := PgSI.enc) rfl rfl hz ?_
    refine o_yield (hy _ y hp) rfl rfl ?_ ?_
    · refine o_not rfl ?_
      refine g_endt ?_
      refine g_cond_f rfl rfl ?_
      repeat (first | refine g_endt ?_ | refine g_end ?_ | refine g_then ?_ | refine g_in_normal ?_ | refine g_then_ret ?_ | refine g_in_ret ?_ | refine g_then_exit ?_ | refine g_in_exit rfl ?_ | refine g_in_exit_ne (by decide) ?_ | refine g_seq ?_ | refine g_region ?_ | refine g_block ?_ | refine g_ret ?_ | refine g_return_n ?_ | refine g_exit ?_ | refine g_skip ?_)
      refine o_move ?_
      refine o_add (c := ((i + 1 : Nat) : Int)) rfl rfl (by omega) (by omega) (by omega) ?_
      refine o_assign ?_
      refine g_endt ?_
      repeat (first | refine g_endt ?_ | refine g_end ?_ | refine g_then ?_ | refine g_in_normal ?_ | refine g_then_ret ?_ | refine g_in_ret ?_ | refine g_then_exit ?_ | refine g_in_exit rfl ?_ | refine g_in_exit_ne (by decide) ?_ | refine g_seq ?_ | refine g_region ?_ | refine g_block ?_ | refine g_ret ?_ | refine g_return_n ?_ | refine g_exit ?_ | refine g_skip ?_)
      exact g_meets ⟨i + 1, by omega, h⟩ (by show ys.length - (i + 1) < ys.length - i; omega) (Sat.mem ⟨rfl, rfl, rfl, trivial⟩) (t := by rw [ht]; infer_instance)
    · refine o_not rfl ?_
      refine g_endt ?_
      refine g_cond_t rfl rfl ?_
      repeat (first | refine g_endt ?_ | refine g_end ?_ | refine g_then ?_ | refine g_in_normal ?_ | refine g_then_ret ?_ | refine g_in_ret ?_ | refine g_then_exit ?_ | refine g_in_exit rfl ?_ | refine g_in_exit_ne (by decide) ?_ | refine g_seq ?_ | refine g_region ?_ | refine g_block ?_ | refine g_ret ?_ | refine g_return_n ?_ | refine g_exit ?_ | refine g_skip ?_)
      exact ret0 rfl (.inr ⟨_, hp, rfl⟩)
  · first | refine g_seq (g_cond_f rfl (by simpa using h) ?_) | refine g_cond_f rfl (by simpa using h) ?_
    repeat (first | refine g_endt ?_ | refine g_end ?_ | refine g_then ?_ | refine g_in_normal ?_ | refine g_then_ret ?_ | refine g_in_ret ?_ | refine g_then_exit ?_ | refine g_in_exit rfl ?_ | refine g_in_exit_ne (by decide) ?_ | refine g_seq ?_ | refine g_region ?_ | refine g_block ?_ | refine g_ret ?_ | refine g_return_n ?_ | refine g_exit ?_ | refine g_skip ?_)
    have he : (ys.drop k).take (i - k) = ys.drop k := List.take_of_length_le (by simp; omega)
    exact ret0 (K := J ((ys.drop k).take (i - k))) rfl (.inl (by rw [he]))
theorem All1SI_iter (p b : Nat) (ys : List PgSI) (hl : ys.length < 1000000000) (J0 : List SProp) {M : List SProp} [tk : Take1 J0 (SetASI p ys) M] [HasP J0 (pblk b (.cells #[.pointer (some ⟨p, 0, none⟩)] 105 (0, 0)))] :
    Iter Try.prog 80 [.pointer (some ⟨b, 0, none⟩)] PgSI.enc' ys J0 := by
  intro l J Jx hJ hy
  subst hJ
  refine spec_of Try.func80 rfl Try.ntmps80 rfl fun w0 F => ?_
  refine G.dup (pblk b (.cells #[.pointer (some ⟨p, 0, none⟩)] 105 (0, 0))) ?_
  repeat (first | refine g_endt ?_ | refine g_end ?_ | refine g_then ?_ | refine g_in_normal ?_ | refine g_then_ret ?_ | refine g_in_ret ?_ | refine g_then_exit ?_ | refine g_in_exit rfl ?_ | refine g_in_exit_ne (by decide) ?_ | refine g_seq ?_ | refine g_region ?_ | refine g_block ?_ | refine g_ret ?_ | refine g_return_n ?_ | refine g_exit ?_ | refine g_skip ?_)
  refine o_load1 (v := .pointer (some ⟨p, 0, none⟩)) rfl rfl ?_
  refine o_pneq rfl ?_
  refine g_endt ?_
  first | refine g_seq (g_cond_t rfl (rfl) ?_) | refine g_cond_t rfl (rfl) ?_
  repeat (first | refine g_endt ?_ | refine g_end ?_ | refine g_then ?_ | refine g_in_normal ?_ | refine g_then_ret ?_ | refine g_in_ret ?_ | refine g_then_exit ?_ | refine g_in_exit rfl ?_ | refine g_in_exit_ne (by decide) ?_ | refine g_seq ?_ | refine g_region ?_ | refine g_block ?_ | refine g_ret ?_ | refine g_return_n ?_ | refine g_exit ?_ | refine g_skip ?_)
  refine o_load1 (v := .pointer (some ⟨p, 0, none⟩)) rfl rfl ?_
  refine o_move ?_
  refine o_call (fromSI_spec p 0 ys hl (Nat.zero_le _) l J Jx (by simpa using hy)) rfl rfl ?_
  intro v L' hR
  repeat (first | refine g_endt ?_ | refine g_end ?_ | refine g_then ?_ | refine g_in_normal ?_ | refine g_then_ret ?_ | refine g_in_ret ?_ | refine g_then_exit ?_ | refine g_in_exit rfl ?_ | refine g_in_exit_ne (by decide) ?_ | refine g_seq ?_ | refine g_region ?_ | refine g_block ?_ | refine g_ret ?_ | refine g_return_n ?_ | refine g_exit ?_ | refine g_skip ?_)
  exact ret0 (K := L') rfl (by simpa using hR)
theorem AllSI_spec (p : Nat) : Ctr Try.prog 54 [.pointer (some ⟨p, 0, none⟩)] []
    (fun v M => ∃ b, v = .func (.func 80) #[] #[.pointer (some ⟨b, 0, none⟩)] ∧ M = [pblk b (.cells #[.pointer (some ⟨p, 0, none⟩)] 105 (0, 0))]) := by
  refine spec_of Try.func54 rfl Try.ntmps54 rfl fun w0 F => ?_
  repeat (first | refine g_endt ?_ | refine g_end ?_ | refine g_then ?_ | refine g_in_normal ?_ | refine g_then_ret ?_ | refine g_in_ret ?_ | refine g_then_exit ?_ | refine g_in_exit rfl ?_ | refine g_in_exit_ne (by decide) ?_ | refine g_seq ?_ | refine g_region ?_ | refine g_block ?_ | refine g_ret ?_ | refine g_return_n ?_ | refine g_exit ?_ | refine g_skip ?_)
  refine o_boxc #[.pointer (some ⟨p, 0, none⟩)] rfl rfl fun b => ?_
  refine G.freeze ?_
  refine o_assign ?_
  first | refine g_endt ?_ | refine g_end ?_
  repeat (first | refine g_endt ?_ | refine g_end ?_ | refine g_then ?_ | refine g_in_normal ?_ | refine g_then_ret ?_ | refine g_in_ret ?_ | refine g_then_exit ?_ | refine g_in_exit rfl ?_ | refine g_in_exit_ne (by decide) ?_ | refine g_seq ?_ | refine g_region ?_ | refine g_block ?_ | refine g_ret ?_ | refine g_return_n ?_ | refine g_exit ?_ | refine g_skip ?_)
  refine o_func ?_
  refine o_assign ?_
  first | refine g_endt ?_ | refine g_end ?_
  repeat (first | refine g_endt ?_ | refine g_end ?_ | refine g_then ?_ | refine g_in_normal ?_ | refine g_then_ret ?_ | refine g_in_ret ?_ | refine g_then_exit ?_ | refine g_in_exit rfl ?_ | refine g_in_exit_ne (by decide) ?_ | refine g_seq ?_ | refine g_region ?_ | refine g_block ?_ | refine g_ret ?_ | refine g_return_n ?_ | refine g_exit ?_ | refine g_skip ?_)
  exact ret1 rfl (resT rfl) ⟨b, rfl, rfl⟩
theorem NilSI_set (p : Nat) {w0 : World} {A : SProp} {L M : List SProp} {Φ : World → Prop} [tk : Take1 L (cellsB p #[.slice none 0 0, .bool false] 145) M] (h : G w0 A (SetASI p [] :: M) Φ) : G w0 A L Φ :=
  G.perm tk.perm (G.nil_slice (α := PgSI) 110 PgSI.enc 4 (shutFSI p [] none 0 rfl (M := M) (tk := ⟨List.Perm.swap _ _ _⟩) h))
theorem NewSI_spec : Ctr Try.prog 72 [.slice none 0 0] [] (fun v M => ∃ p, v = .pointer (some ⟨p, 0, none⟩) ∧ M = [SetASI p []]) := by
  refine spec_of Try.func72 rfl Try.ntmps72 rfl fun w0 F => ?_
  repeat (first | refine g_endt ?_ | refine g_end ?_ | refine g_then ?_ | refine g_in_normal ?_ | refine g_then_ret ?_ | refine g_in_ret ?_ | refine g_then_exit ?_ | refine g_in_exit rfl ?_ | refine g_in_exit_ne (by decide) ?_ | refine g_seq ?_ | refine g_region ?_ | refine g_block ?_ | refine g_ret ?_ | refine g_return_n ?_ | refine g_exit ?_ | refine g_skip ?_)
  refine o_assign ?_
  first | refine g_endt ?_ | refine g_end ?_
  repeat (first | refine g_endt ?_ | refine g_end ?_ | refine g_then ?_ | refine g_in_normal ?_ | refine g_then_ret ?_ | refine g_in_ret ?_ | refine g_then_exit ?_ | refine g_in_exit rfl ?_ | refine g_in_exit_ne (by decide) ?_ | refine g_seq ?_ | refine g_region ?_ | refine g_block ?_ | refine g_ret ?_ | refine g_return_n ?_ | refine g_exit ?_ | refine g_skip ?_)
  refine o_build (.agg #[.slice none 0 0, .bool false]) (fun w => by kernel_rfl) ?_
  refine o_boxc #[.slice none 0 0, .bool false] rfl rfl fun p => ?_
  refine NilSI_set p ?_
  refine o_assign ?_
  refine g_endt ?_
  repeat (first | refine g_endt ?_ | refine g_end ?_ | refine g_then ?_ | refine g_in_normal ?_ | refine g_then_ret ?_ | refine g_in_ret ?_ | refine g_then_exit ?_ | refine g_in_exit rfl ?_ | refine g_in_exit_ne (by decide) ?_ | refine g_seq ?_ | refine g_region ?_ | refine g_block ?_ | refine g_ret ?_ | refine g_return_n ?_ | refine g_exit ?_ | refine g_skip ?_)
  refine o_move ?_
  refine o_len rfl rfl ?_
  refine o_move ?_
  first | refine g_endt ?_ | refine g_end ?_
  repeat (first | refine g_endt ?_ | refine g_end ?_ | refine g_then ?_ | refine g_in_normal ?_ | refine g_then_ret ?_ | refine g_in_ret ?_ | refine g_then_exit ?_ | refine g_in_exit rfl ?_ | refine g_in_exit_ne (by decide) ?_ | refine g_seq ?_ | refine g_region ?_ | refine g_block ?_ | refine g_ret ?_ | refine g_return_n ?_ | refine g_exit ?_ | refine g_skip ?_)
  refine g_loop (σ := Unit) (S := fun _ => [(3, .pointer (some ⟨p, 0, none⟩)), (9, .int .i64 0), (10, .int .i64 0)]) (H := fun _ => [SetASI p []]) (μ := fun _ => 0) (s0 := ()) (Sat.mem ⟨rfl, rfl, rfl, trivial⟩) ?_
  rintro _ ρ'
  repeat (first | refine g_endt ?_ | refine g_end ?_ | refine g_then ?_ | refine g_in_normal ?_ | refine g_then_ret ?_ | refine g_in_ret ?_ | refine g_then_exit ?_ | refine g_in_exit rfl ?_ | refine g_in_exit_ne (by decide) ?_ | refine g_seq ?_ | refine g_region ?_ | refine g_block ?_ | refine g_ret ?_ | refine g_return_n ?_ | refine g_exit ?_ | refine g_skip ?_)
  refine o_lss rfl rfl ?_
  first | refine g_endt ?_ | refine g_end ?_
  first | refine g_seq (g_cond_f rfl (rfl) ?_) | refine g_cond_f rfl (rfl) ?_
  repeat (first | refine g_endt ?_ | refine g_end ?_ | refine g_then ?_ | refine g_in_normal ?_ | refine g_then_ret ?_ | refine g_in_ret ?_ | refine g_then_exit ?_ | refine g_in_exit rfl ?_ | refine g_in_exit_ne (by decide) ?_ | refine g_seq ?_ | refine g_region ?_ | refine g_block ?_ | refine g_ret ?_ | refine g_return_n ?_ | refine g_exit ?_ | refine g_skip ?_)
  refine o_move ?_
  refine o_assign ?_
  first | refine g_endt ?_ | refine g_end ?_
  repeat (first | refine g_endt ?_ | refine g_end ?_ | refine g_then ?_ | refine g_in_normal ?_ | refine g_then_ret ?_ | refine g_in_ret ?_ | refine g_then_exit ?_ | refine g_in_exit rfl ?_ | refine g_in_exit_ne (by decide) ?_ | refine g_seq ?_ | refine g_region ?_ | refine g_block ?_ | refine g_ret ?_ | refine g_return_n ?_ | refine g_exit ?_ | refine g_skip ?_)
  exact ret1 rfl (resT rfl) ⟨p, rfl, rfl⟩
end Go.Proofs.Ytlognaddmbolgaa
/- An ordered set's functions, for one type of members: Drop, Get, At, Len. -/
namespace Go.Proofs.Ytlognaddmbolgaa
open Go Go.Sl
attribute [local irreducible] Code.wpIn roundPost bodyPostM runL Ret Meets Begin

theorem shiftSI (ys : List PgSI) (k i : Nat) (y : PgSI) (hk : k ≤ i) (hi : i + 1 < ys.length) (hy : ys[i + 1]? = some y) : ((ys.eraseIdx k).take i ++ ys.drop i).set i y = (ys.eraseIdx k).take (i + 1) ++ ys.drop (i + 1) := by
  have hle : (ys.eraseIdx k).length = ys.length - 1 := by rw [List.length_eraseIdx]; split <;> omega
  have h1 : ((ys.eraseIdx k).take i).length = i := by simp [hle]; omega
  have h2 : ys.drop i = ys[i] :: ys.drop (i + 1) := List.drop_eq_getElem_cons (by omega)
  have h3 : (ys.eraseIdx k)[i]? = some y := by rw [List.getElem?_eraseIdx, if_neg (by omega), hy]
  rw [List.set_append_right _ _ (by omega), h1, Nat.sub_self, h2, List.set_cons_zero, take_snocPSI _ i y h3]
  simp
theorem DropSI_spec (p : Nat) (ys : List PgSI) (x : PgSI) (hs : Srt PgSI.cmp ys) (hl : ys.length < 1000000000) : Ctr Try.prog 58 [.pointer (some ⟨p, 0, none⟩), x.val] [SetASI p ys]
    (fun v M => ∃ (k : Nat) (there : Bool), v = .bool there ∧ M = [SetASI p (cond there (ys.eraseIdx k) ys)] ∧ FindR PgSI.cmp ys x k there) := by
  refine spec_of Try.func58 rfl Try.ntmps58 rfl fun w0 F => ?_
  repeat (first | refine g_endt ?_ | refine g_end ?_ | refine g_then ?_ | refine g_in_normal ?_ | refine g_then_ret ?_ | refine g_in_ret ?_ | refine g_then_exit ?_ | refine g_in_exit rfl ?_ | refine g_in_exit_ne (by decide) ?_ | refine g_seq ?_ | refine g_region ?_ | refine g_block ?_ | refine g_ret ?_ | refine g_return_n ?_ | refine g_exit ?_ | refine g_skip ?_)
  refine o_boxc x.val.cells rfl rfl fun q => ?_
  refine o_assign ?_
  first | refine g_endt ?_ | refine g_end ?_
  repeat (first | refine g_endt ?_ | refine g_end ?_ | refine g_then ?_ | refine g_in_normal ?_ | refine g_then_ret ?_ | refine g_in_ret ?_ | refine g_then_exit ?_ | refine g_in_exit rfl ?_ | refine g_in_exit_ne (by decide) ?_ | refine g_seq ?_ | refine g_region ?_ | refine g_block ?_ | refine g_ret ?_ | refine g_return_n ?_ | refine g_exit ?_ | refine g_skip ?_)
  refine o_move ?_
  refine o_peql rfl ?_
  first | refine g_endt ?_ | refine g_end ?_
  first | refine g_seq (g_cond_f rfl (rfl) ?_) | refine g_cond_f rfl (rfl) ?_
  repeat (first | refine g_endt ?_ | refine g_end ?_ | refine g_then ?_ | refine g_in_normal ?_ | refine g_then_ret ?_ | refine g_in_ret ?_ | refine g_then_exit ?_ | refine g_in_exit rfl ?_ | refine g_in_exit_ne (by decide) ?_ | refine g_seq ?_ | refine g_region ?_ | refine g_block ?_ | refine g_ret ?_ | refine g_return_n ?_ | refine g_exit ?_ | refine g_skip ?_)
  refine o_move ?_
  refine o_loadN (v := x.val) rfl rfl rfl ?_
  refine o_call (findSI_spec p ys x hs (by omega)) rfl rfl ?_
  rintro _ _ ⟨k, there, rfl, rfl, hk⟩
  refine o_move ?_
  refine o_extract rfl rfl ?_
  refine o_extract rfl rfl ?_
  refine o_assign ?_
  refine o_assign ?_
  first | refine g_endt ?_ | refine g_end ?_
  repeat (first | refine g_endt ?_ | refine g_end ?_ | refine g_then ?_ | refine g_in_normal ?_ | refine g_then_ret ?_ | refine g_in_ret ?_ | refine g_then_exit ?_ | refine g_in_exit rfl ?_ | refine g_in_exit_ne (by decide) ?_ | refine g_seq ?_ | refine g_region ?_ | refine g_block ?_ | refine g_ret ?_ | refine g_return_n ?_ | refine g_exit ?_ | refine g_skip ?_)
  refine o_move ?_
  refine o_not rfl ?_
  refine g_endt ?_
  cases there
  case false =>
    first | refine g_seq (g_cond_t rfl (rfl) ?_) | refine g_cond_t rfl (rfl) ?_
    repeat (first | refine g_endt ?_ | refine g_end ?_ | refine g_then ?_ | refine g_in_normal ?_ | refine g_then_ret ?_ | refine g_in_ret ?_ | refine g_then_exit ?_ | refine g_in_exit rfl ?_ | refine g_in_exit_ne (by decide) ?_ | refine g_seq ?_ | refine g_region ?_ | refine g_block ?_ | refine g_ret ?_ | refine g_return_n ?_ | refine g_exit ?_ | refine g_skip ?_)
    refine o_assign ?_
    first | refine g_endt ?_ | refine g_end ?_
    repeat (first | refine g_endt ?_ | refine g_end ?_ | refine g_then ?_ | refine g_in_normal ?_ | refine g_then_ret ?_ | refine g_in_ret ?_ | refine g_then_exit ?_ | refine g_in_exit rfl ?_ | refine g_in_exit_ne (by decide) ?_ | refine g_seq ?_ | refine g_region ?_ | refine g_block ?_ | refine g_ret ?_ | refine g_return_n ?_ | refine g_exit ?_ | refine g_skip ?_)
    exact ret1 (K := [SetASI p ys]) rfl (resT rfl) ⟨k, false, rfl, rfl, hk⟩
  first | refine g_seq (g_cond_f rfl (rfl) ?_) | refine g_cond_f rfl (rfl) ?_
  have hk1 : k < ys.length := by
    obtain ⟨y, hy, _⟩ := hk.2.1 rfl
    exact (List.getElem?_eq_some_iff.1 hy).1
  repeat (first | refine g_endt ?_ | refine g_end ?_ | refine g_then ?_ | refine g_in_normal ?_ | refine g_then_ret ?_ | refine g_in_ret ?_ | refine g_then_exit ?_ | refine g_in_exit rfl ?_ | refine g_in_exit_ne (by decide) ?_ | refine g_seq ?_ | refine g_region ?_ | refine g_block ?_ | refine g_ret ?_ | refine g_return_n ?_ | refine g_exit ?_ | refine g_skip ?_)
  refine o_move ?_
  refine o_call (ownSI_spec p ys (by omega)) rfl rfl ?_
  rintro _ _ ⟨S, c, rfl⟩
  refine g_endt ?_
  repeat (first | refine g_endt ?_ | refine g_end ?_ | refine g_then ?_ | refine g_in_normal ?_ | refine g_then_ret ?_ | refine g_in_ret ?_ | refine g_then_exit ?_ | refine g_in_exit rfl ?_ | refine g_in_exit_ne (by decide) ?_ | refine g_seq ?_ | refine g_region ?_ | refine g_block ?_ | refine g_ret ?_ | refine g_return_n ?_ | refine g_exit ?_ | refine g_skip ?_)
  refine o_move ?_
  refine o_assign ?_
  first | refine g_endt ?_ | refine g_end ?_
  repeat (first | refine g_endt ?_ | refine g_end ?_ | refine g_then ?_ | refine g_in_normal ?_ | refine g_then_ret ?_ | refine g_in_ret ?_ | refine g_then_exit ?_ | refine g_in_exit rfl ?_ | refine g_in_exit_ne (by decide) ?_ | refine g_seq ?_ | refine g_region ?_ | refine g_block ?_ | refine g_ret ?_ | refine g_return_n ?_ | refine g_exit ?_ | refine g_skip ?_)
  have h0 : (ys.eraseIdx k).take k ++ ys.drop k = ys := by
    rw [List.eraseIdx_eq_take_drop_succ, List.take_append_of_le_length (by simp; omega), List.take_take, Nat.min_self, List.take_append_drop]
  refine g_loop (σ := {i : Nat // k ≤ i ∧ i + 1 ≤ ys.length})
    (S := fun i => [(0, .pointer (some ⟨p, 0, none⟩)), (7, .int .i64 (i.1 : Int))])
    (H := fun i => [cellsB p #[.slice S ys.length c, .bool false] 145, osl 110 PgSI.enc 4 S c ((ys.eraseIdx k).take i.1 ++ ys.drop i.1)]) (μ := fun i => ys.length - i.1)
    (s0 := ⟨k, Nat.le_refl _, hk1⟩) (Sat.mem ⟨rfl, rfl, trivial⟩) (t := by simp only [h0]; infer_instance) ?_
  rintro ⟨i, h1, h2⟩ ρ'
  dsimp only at h1 h2 ⊢
  have hle : (ys.eraseIdx k).length = ys.length - 1 := by rw [List.length_eraseIdx, if_pos hk1]
  have hlen : ((ys.eraseIdx k).take i ++ ys.drop i).length = ys.length := by simp [hle]; omega
  repeat (first | refine g_endt ?_ | refine g_end ?_ | refine g_then ?_ | refine g_in_normal ?_ | refine g_then_ret ?_ | refine g_in_ret ?_ | refine g_then_exit ?_ | refine g_in_exit rfl ?_ | refine g_in_exit_ne (by decide) ?_ | refine g_seq ?_ | refine g_region ?_ | refine g_block ?_ | refine g_ret ?_ | refine g_return_n ?_ | refine g_exit ?_ | refine g_skip ?_)
  refine o_move ?_
  refine o_add (c := ((i + 1 : Nat) : Int)) rfl rfl (by omega) (by omega) (by omega) ?_
  refine o_move ?_
  refine o_nil rfl ?_
  refine o_field rfl ?_
  refine o_load1 (v := .slice S ys.length c) rfl rfl ?_
  refine o_len rfl rfl ?_
  refine o_lss rfl rfl ?_
  refine g_endt ?_
  by_cases h : i + 1 < ys.length
  · first | refine g_seq (g_cond_t rfl (by simp; omega) ?_) | refine g_cond_t rfl (by simp; omega) ?_
    repeat (first | refine g_endt ?_ | refine g_end ?_ | refine g_then ?_ | refine g_in_normal ?_ | refine g_then_ret ?_ | refine g_in_ret ?_ | refine g_then_exit ?_ | refine g_in_exit rfl ?_ | refine g_in_exit_ne (by decide) ?_ | refine g_seq ?_ | refine g_region ?_ | refine g_block ?_ | refine g_ret ?_ | refine g_return_n ?_ | refine g_exit ?_ | refine g_skip ?_)
    obtain ⟨y, hy⟩ : ∃ y, ys[i + 1]? = some y := ⟨_, List.getElem?_eq_getElem h⟩
    have hz : ((ys.eraseIdx k).take i ++ ys.drop i)[i + 1]? = some y := by
      have h3 : ((ys.eraseIdx k).take i).length = i := by simp [hle]; omega
      rw [List.getElem?_append_right (by omega), h3, List.getElem?_drop, show i + (i + 1 - i) = i + 1 by omega, hy]
    refine g_draw [14] [0,1,2,3,4,5,6,7,8,9,10,11,12,13,14] [cellsB p #[.slice S ys.length c, .bool false] 145, osl 110 PgSI.enc 4 S c ((ys.eraseIdx k).take i ++ ys.drop i)] mixed rfl ?_
    refine ob_q rfl rfl ⟨_, fun X Q h => o_move (g_end (h _ _ ⟨rfl, rfl⟩)), ?_⟩
    refine ob_q rfl rfl ⟨_, fun X Q h => o_nil rfl (g_end (h _ _ ⟨rfl, rfl⟩)), ?_⟩
    refine ob_q rfl rfl ⟨_, fun X Q h => o_field rfl (g_end (h _ _ ⟨rfl, rfl⟩)), ?_⟩
    refine ob_q rfl rfl ⟨_, fun X Q h => o_load1 (v := .slice S ys.length c) rfl rfl (g_end (h _ _ ⟨rfl, rfl⟩)), ?_⟩
    refine ob_q rfl rfl ⟨_, fun X Q h => o_move (g_end (h _ _ ⟨rfl, rfl⟩)), ?_⟩
    refine ob_q rfl rfl ⟨_, fun X Q h => o_move (g_end (h _ _ ⟨rfl, rfl⟩)), ?_⟩
    refine ob_q rfl rfl ⟨_, fun X Q h => o_nil rfl (g_end (h _ _ ⟨rfl, rfl⟩)), ?_⟩
    refine ob_q rfl rfl ⟨_, fun X Q h => o_field rfl (g_end (h _ _ ⟨rfl, rfl⟩)), ?_⟩
    refine ob_q rfl rfl ⟨_, fun X Q h => o_load1 (v := .slice S ys.length c) rfl rfl (g_end (h _ _ ⟨rfl, rfl⟩)), ?_⟩
    refine ob_q rfl rfl ⟨_, fun X Q h => o_move (g_end (h _ _ ⟨rfl, rfl⟩)), ?_⟩
    refine ob_q rfl rfl ⟨_, fun X Q h => o_add (c := ((i + 1 : Nat) : Int)) rfl rfl (by omega) (by omega) (by omega) (g_end (h _ _ ⟨rfl, rfl⟩)), ?_⟩
    refine ob_q rfl rfl ⟨_, fun X Q h => o_indexR (i := i + 1) rfl rfl rfl (by omega) hlen rfl (g_end (h _ _ ⟨rfl, rfl⟩)), ?_⟩
    refine ob_q rfl rfl ⟨_, fun X Q h => o_loadE (enc := PgSI.enc) rfl rfl hz (g_end (h _ _ ⟨rfl, rfl⟩)), ?_⟩
    refine ob_q rfl rfl ⟨_, fun X Q h => o_indexR (i := i) rfl rfl rfl (by omega) hlen rfl (g_end (h _ _ ⟨rfl, rfl⟩)), ?_⟩
    refine ob_s ([]) rfl rfl rfl fun Qz hz => o_storeE (e := 110) (c := c) (v := y.val) (z := y) (i := i) (enc := PgSI.enc) (xs := (ys.eraseIdx k).take i ++ ys.drop i) rfl rfl rfl rfl (by omega) <| g_end (hz _ _ ⟨_, ob_fin, ?_⟩)
    clear hz Qz
    refine ob_nil ?_
    rw [shiftSI ys k i y h1 h hy]
    repeat (first | refine g_endt ?_ | refine g_end ?_ | refine g_then ?_ | refine g_in_normal ?_ | refine g_then_ret ?_ | refine g_in_ret ?_ | refine g_then_exit ?_ | refine g_in_exit rfl ?_ | refine g_in_exit_ne (by decide) ?_ | refine g_seq ?_ | refine g_region ?_ | refine g_block ?_ | refine g_ret ?_ | refine g_return_n ?_ | refine g_exit ?_ | refine g_skip ?_)
    refine o_move ?_
    refine o_add (c := ((i + 1 : Nat) : Int)) rfl rfl (by omega) (by omega) (by omega) ?_
    refine o_assign ?_
    refine g_endt ?_
    repeat (first | refine g_endt ?_ | refine g_end ?_ | refine g_then ?_ | refine g_in_normal ?_ | refine g_then_ret ?_ | refine g_in_ret ?_ | refine g_then_exit ?_ | refine g_in_exit rfl ?_ | refine g_in_exit_ne (by decide) ?_ | refine g_seq ?_ | refine g_region ?_ | refine g_block ?_ | refine g_ret ?_ | refine g_return_n ?_ | refine g_exit ?_ | refine g_skip ?_)
    exact g_meets ⟨i + 1, by omega, by omega⟩ (by show ys.length - (i + 1) < ys.length - i; omega) (Sat.mem ⟨rfl, rfl, trivial⟩)
  · first | refine g_seq (g_cond_f rfl (by simp; omega) ?_) | refine g_cond_f rfl (by simp; omega) ?_
    repeat (first | refine g_endt ?_ | refine g_end ?_ | refine g_then ?_ | refine g_in_normal ?_ | refine g_then_ret ?_ | refine g_in_ret ?_ | refine g_then_exit ?_ | refine g_in_exit rfl ?_ | refine g_in_exit_ne (by decide) ?_ | refine g_seq ?_ | refine g_region ?_ | refine g_block ?_ | refine g_ret ?_ | refine g_return_n ?_ | refine g_exit ?_ | refine g_skip ?_)
    refine g_draw [14] [0,1,2,3,4,5,6,7,8,9,10,11,12,13,14] [cellsB p #[.slice S ys.length c, .bool false] 145, osl 110 PgSI.enc 4 S c ((ys.eraseIdx k).take i ++ ys.drop i)] mixed rfl ?_
    refine ob_q rfl rfl ⟨_, fun X Q h => o_move (g_end (h _ _ ⟨rfl, rfl⟩)), ?_⟩
    refine ob_q rfl rfl ⟨_, fun X Q h => o_move (g_end (h _ _ ⟨rfl, rfl⟩)), ?_⟩
    refine ob_q rfl rfl ⟨_, fun X Q h => o_nil rfl (g_end (h _ _ ⟨rfl, rfl⟩)), ?_⟩
    refine ob_q rfl rfl ⟨_, fun X Q h => o_field rfl (g_end (h _ _ ⟨rfl, rfl⟩)), ?_⟩
    refine ob_q rfl rfl ⟨_, fun X Q h => o_load1 (v := .slice S ys.length c) rfl rfl (g_end (h _ _ ⟨rfl, rfl⟩)), ?_⟩
    refine ob_q rfl rfl ⟨_, fun X Q h => o_move (g_end (h _ _ ⟨rfl, rfl⟩)), ?_⟩
    refine ob_q rfl rfl ⟨_, fun X Q h => o_nil rfl (g_end (h _ _ ⟨rfl, rfl⟩)), ?_⟩
    refine ob_q rfl rfl ⟨_, fun X Q h => o_field rfl (g_end (h _ _ ⟨rfl, rfl⟩)), ?_⟩
    refine ob_q rfl rfl ⟨_, fun X Q h => o_load1 (v := .slice S ys.length c) rfl rfl (g_end (h _ _ ⟨rfl, rfl⟩)), ?_⟩
    refine ob_q rfl rfl ⟨_, fun X Q h => o_len rfl rfl (g_end (h _ _ ⟨rfl, rfl⟩)), ?_⟩
    refine ob_q rfl rfl ⟨_, fun X Q h => o_sub (c := ((ys.length - 1 : Nat) : Int)) rfl rfl (by omega) (by omega) (by omega) (g_end (h _ _ ⟨rfl, rfl⟩)), ?_⟩
    refine ob_q rfl rfl ⟨_, fun X Q h => o_uptoR (e := 110) (enc := PgSI.enc) (sz := 4) (c := c) (k := ys.length - 1) (xs := (ys.eraseIdx k).take i ++ ys.drop i) rfl rfl rfl hlen (by omega) (g_end (h _ _ ⟨rfl, rfl⟩)), ?_⟩
    refine ob_q rfl rfl ⟨_, fun X Q h => o_nil rfl (g_end (h _ _ ⟨rfl, rfl⟩)), ?_⟩
    refine ob_q rfl rfl ⟨_, fun X Q h => o_field rfl (g_end (h _ _ ⟨rfl, rfl⟩)), ?_⟩
    refine ob_s ([]) rfl rfl rfl fun Qz hz => o_store (v := .slice S (ys.length - 1) c) rfl rfl rfl rfl rfl <| g_end (hz _ _ ⟨_, ob_fin, ?_⟩)
    clear hz Qz
    refine ob_nil ?_
    refine G.norm p #[.slice S (ys.length - 1) c, .bool false] rfl ?_
    refine G.shorten (e := 110) (enc := PgSI.enc) (sz := 4) (S := S) (c := c) (xs := (ys.eraseIdx k).take i ++ ys.drop i) (ys.length - 1) (by omega) ?_
    have he : ((ys.eraseIdx k).take i ++ ys.drop i).take (ys.length - 1) = ys.eraseIdx k := by
      have h3 : ((ys.eraseIdx k).take i).length = ys.length - 1 := by simp [hle]; omega
      rw [List.take_append_of_le_length (by omega), List.take_of_length_le (by omega), List.take_of_length_le (by omega)]
    rw [he]
    repeat (first | refine g_endt ?_ | refine g_end ?_ | refine g_then ?_ | refine g_in_normal ?_ | refine g_then_ret ?_ | refine g_in_ret ?_ | refine g_then_exit ?_ | refine g_in_exit rfl ?_ | refine g_in_exit_ne (by decide) ?_ | refine g_seq ?_ | refine g_region ?_ | refine g_block ?_ | refine g_ret ?_ | refine g_return_n ?_ | refine g_exit ?_ | refine g_skip ?_)
    refine o_assign ?_
    first | refine g_endt ?_ | refine g_end ?_
    refine shutFSI p (ys.eraseIdx k) S c (len := ys.length - 1) hle ?_
    repeat (first | refine g_endt ?_ | refine g_end ?_ | refine g_then ?_ | refine g_in_normal ?_ | refine g_then_ret ?_ | refine g_in_ret ?_ | refine g_then_exit ?_ | refine g_in_exit rfl ?_ | refine g_in_exit_ne (by decide) ?_ | refine g_seq ?_ | refine g_region ?_ | refine g_block ?_ | refine g_ret ?_ | refine g_return_n ?_ | refine g_exit ?_ | refine g_skip ?_)
    exact ret1 (K := [SetASI p (ys.eraseIdx k)]) rfl (resT rfl) ⟨k, true, rfl, rfl, hk⟩
end Go.Proofs.Ytlognaddmbolgaa
/- An ordered set's functions, for one type of members: asked. -/
namespace Go.Proofs.Ytlognaddmbolgaa
open Go Go.Sl
attribute [local irreducible] Code.wpIn roundPost bodyPostM runL Ret Meets Begin

/-- What Get tells. -/
def GetRSI (ys : List PgSI) (x : PgSI) (o : Option PgSI) : Prop := match o with
  | some y => ∃ k, FindR PgSI.cmp ys x k true ∧ ys[k]? = some y
  | none => ∃ k, FindR PgSI.cmp ys x k false
theorem GetSI_spec (p : Nat) (ys : List PgSI) (x : PgSI) (hs : Srt PgSI.cmp ys) (hl : ys.length < 1000000000) : Ctr Try.prog 55 [.pointer (some ⟨p, 0, none⟩), x.val] [SetASI p ys]
    (fun v M => ∃ (o : Option PgSI), v = .tuple #[(o.getD PgSI.zero).val, .bool o.isSome] ∧ M = [SetASI p ys] ∧ GetRSI ys x o) := by
  refine spec_of Try.func55 rfl Try.ntmps55 rfl fun w0 F => ?_
  repeat (first | refine g_endt ?_ | refine g_end ?_ | refine g_then ?_ | refine g_in_normal ?_ | refine g_then_ret ?_ | refine g_in_ret ?_ | refine g_then_exit ?_ | refine g_in_exit rfl ?_ | refine g_in_exit_ne (by decide) ?_ | refine g_seq ?_ | refine g_region ?_ | refine g_block ?_ | refine g_ret ?_ | refine g_return_n ?_ | refine g_exit ?_ | refine g_skip ?_)
  refine o_boxc x.val.cells rfl rfl fun q => ?_
  refine o_alloc fun r => ?_
  refine o_assign ?_
  first | refine g_endt ?_ | refine g_end ?_
  repeat (first | refine g_endt ?_ | refine g_end ?_ | refine g_then ?_ | refine g_in_normal ?_ | refine g_then_ret ?_ | refine g_in_ret ?_ | refine g_then_exit ?_ | refine g_in_exit rfl ?_ | refine g_in_exit_ne (by decide) ?_ | refine g_seq ?_ | refine g_region ?_ | refine g_block ?_ | refine g_ret ?_ | refine g_return_n ?_ | refine g_exit ?_ | refine g_skip ?_)
  refine o_alloc fun z => ?_
  refine g_endt ?_
  repeat (first | refine g_endt ?_ | refine g_end ?_ | refine g_then ?_ | refine g_in_normal ?_ | refine g_then_ret ?_ | refine g_in_ret ?_ | refine g_then_exit ?_ | refine g_in_exit rfl ?_ | refine g_in_exit_ne (by decide) ?_ | refine g_seq ?_ | refine g_region ?_ | refine g_block ?_ | refine g_ret ?_ | refine g_return_n ?_ | refine g_exit ?_ | refine g_skip ?_)
  refine o_move ?_
  refine o_peql rfl ?_
  first | refine g_endt ?_ | refine g_end ?_
  first | refine g_seq (g_cond_f rfl (rfl) ?_) | refine g_cond_f rfl (rfl) ?_
  repeat (first | refine g_endt ?_ | refine g_end ?_ | refine g_then ?_ | refine g_in_normal ?_ | refine g_then_ret ?_ | refine g_in_ret ?_ | refine g_then_exit ?_ | refine g_in_exit rfl ?_ | refine g_in_exit_ne (by decide) ?_ | refine g_seq ?_ | refine g_region ?_ | refine g_block ?_ | refine g_ret ?_ | refine g_return_n ?_ | refine g_exit ?_ | refine g_skip ?_)
  refine o_move ?_
  refine o_loadN (v := x.val) rfl rfl rfl ?_
  refine o_call (findSI_spec p ys x hs (by omega)) rfl rfl ?_
  rintro _ _ ⟨k, there, rfl, rfl, hk⟩
  refine o_move ?_
  refine o_extract rfl rfl ?_
  refine o_extract rfl rfl ?_
  refine o_assign ?_
  refine o_assign ?_
  first | refine g_endt ?_ | refine g_end ?_
  repeat (first | refine g_endt ?_ | refine g_end ?_ | refine g_then ?_ | refine g_in_normal ?_ | refine g_then_ret ?_ | refine g_in_ret ?_ | refine g_then_exit ?_ | refine g_in_exit rfl ?_ | refine g_in_exit_ne (by decide) ?_ | refine g_seq ?_ | refine g_region ?_ | refine g_block ?_ | refine g_ret ?_ | refine g_return_n ?_ | refine g_exit ?_ | refine g_skip ?_)
  refine o_move ?_
  refine o_not rfl ?_
  refine g_endt ?_
  cases there
  case false =>
    first | refine g_seq (g_cond_t rfl (rfl) ?_) | refine g_cond_t rfl (rfl) ?_
    repeat (first | refine g_endt ?_ | refine g_end ?_ | refine g_then ?_ | refine g_in_normal ?_ | refine g_then_ret ?_ | refine g_in_ret ?_ | refine g_then_exit ?_ | refine g_in_exit rfl ?_ | refine g_in_exit_ne (by decide) ?_ | refine g_seq ?_ | refine g_region ?_ | refine g_block ?_ | refine g_ret ?_ | refine g_return_n ?_ | refine g_exit ?_ | refine g_skip ?_)
    refine o_loadN (v := PgSI.zero.val) rfl rfl rfl ?_
    refine o_store (v := PgSI.zero.val) rfl rfl rfl rfl rfl ?_
    refine o_assign ?_
    first | refine g_endt ?_ | refine g_end ?_
    refine G.norm r PgSI.zero.val.cells rfl ?_
    repeat (first | refine g_endt ?_ | refine g_end ?_ | refine g_then ?_ | refine g_in_normal ?_ | refine g_then_ret ?_ | refine g_in_ret ?_ | refine g_then_exit ?_ | refine g_in_exit rfl ?_ | refine g_in_exit_ne (by decide) ?_ | refine g_seq ?_ | refine g_region ?_ | refine g_block ?_ | refine g_ret ?_ | refine g_return_n ?_ | refine g_exit ?_ | refine g_skip ?_)
    exact ret2 (K := [SetASI p ys]) rfl (resCN (v := PgSI.zero.val) rfl rfl rfl) (resT rfl) ⟨none, rfl, rfl, k, hk⟩
  first | refine g_seq (g_cond_f rfl (rfl) ?_) | refine g_cond_f rfl (rfl) ?_
  obtain ⟨y, hy, hc⟩ := hk.2.1 rfl
  have hk1 : k < ys.length := (List.getElem?_eq_some_iff.1 hy).1
  repeat (first | refine g_endt ?_ | refine g_end ?_ | refine g_then ?_ | refine g_in_normal ?_ | refine g_then_ret ?_ | refine g_in_ret ?_ | refine g_then_exit ?_ | refine g_in_exit rfl ?_ | refine g_in_exit_ne (by decide) ?_ | refine g_seq ?_ | refine g_region ?_ | refine g_block ?_ | refine g_ret ?_ | refine g_return_n ?_ | refine g_exit ?_ | refine g_skip ?_)
  refine openSI p ys fun S c b => ?_
  refine o_move ?_
  refine o_nil rfl ?_
  refine o_field rfl ?_
  refine o_load1 (v := .slice S ys.length c) rfl rfl ?_
  refine o_move ?_
  refine o_indexR (ys := ys) (i := k) rfl rfl rfl hk1 rfl rfl ?_
  refine o_loadE (ys := ys) rfl rfl hy ?_
  refine o_store (v := y.val) rfl rfl rfl rfl rfl ?_
  refine o_assign ?_
  first | refine g_endt ?_ | refine g_end ?_
  refine G.norm r y.val.cells rfl ?_
  refine shutSI p ys S c b rfl ?_
  repeat (first | refine g_endt ?_ | refine g_end ?_ | refine g_then ?_ | refine g_in_normal ?_ | refine g_then_ret ?_ | refine g_in_ret ?_ | refine g_then_exit ?_ | refine g_in_exit rfl ?_ | refine g_in_exit_ne (by decide) ?_ | refine g_seq ?_ | refine g_region ?_ | refine g_block ?_ | refine g_ret ?_ | refine g_return_n ?_ | refine g_exit ?_ | refine g_skip ?_)
  exact ret2 (K := [SetASI p ys]) rfl (resCN (v := y.val) rfl rfl rfl) (resT rfl) ⟨some y, rfl, rfl, k, hk, hy⟩
end Go.Proofs.Ytlognaddmbolgaa
/- An ordered map's functions, for one type of keys and one of values: made, put. -/
namespace Go.Proofs.Ytlognaddmbolgaa
open Go Go.Sl
attribute [local irreducible] Code.wpIn roundPost bodyPostM runL Ret Meets Begin

theorem GetMSI_spec (p : Nat) (ys : List PgSI) (x : PgSI) (hs : Srt PgSI.cmp ys) (hl : ys.length < 1000000000) : Ctr Try.prog 55 [.pointer (some ⟨p, 0, none⟩), x.val] [SetASI p ys]
    (fun v M => v = .tuple #[((getM PgSI.cmp ys x).getD PgSI.zero).val, .bool (getM PgSI.cmp ys x).isSome] ∧ M = [SetASI p ys]) := (GetSI_spec p ys x hs hl).mono fun v M ⟨o, h1, h2, h3⟩ => by
  have : getM PgSI.cmp ys x = o := by
    cases o with
    | none => obtain ⟨k, hk⟩ := h3; exact getM_none hk
    | some y => obtain ⟨k, hk, hy⟩ := h3; exact getM_some PgSI.lin hs hk hy
  rw [this]
  exact ⟨h1, h2⟩
def MapASI (m : Nat) (ys : List PgSI) : SProp := ex fun p : Nat => sl [cellsB m #[.pointer (some ⟨p, 0, none⟩)] 107, SetASI p ys]
section
variable {w0 : World} {A : SProp} {L M : List SProp} {Φ : World → Prop}
theorem openMSI (m : Nat) (ys : List PgSI) [tk : Take1 L (MapASI m ys) M] (h : ∀ p, G w0 A (SetASI p ys :: cellsB m #[.pointer (some ⟨p, 0, none⟩)] 107 :: M) Φ) : G w0 A L Φ :=
  G.perm tk.perm (G.ex fun p => G.open_sl (G.perm (List.Perm.swap _ _ _) (h p)))
theorem shutMSI (m p : Nat) (ys : List PgSI) [tk : Take L [cellsB m #[.pointer (some ⟨p, 0, none⟩)] 107, SetASI p ys] M] (h : G w0 A (MapASI m ys :: M) Φ) : G w0 A L Φ :=
  G.perm tk.perm (G.ent ((sl_append_to _ M).trans (Ent.star (show Ent _ (MapASI m ys) from fun _ _ x => ⟨p, x⟩) (Ent.refl _))) h)
end
theorem MapASI_of (m p : Nat) (ys : List PgSI) {L M : List SProp} [tk : Take1 L (MapASI m ys) M] : Ent (sl (SetASI p ys :: cellsB m #[.pointer (some ⟨p, 0, none⟩)] 107 :: M)) (sl L) := by
  refine Ent.trans ?_ (sl_perm tk.perm.symm)
  refine (sl_perm (List.Perm.swap (cellsB m #[.pointer (some ⟨p, 0, none⟩)] 107) (SetASI p ys) M)).trans ?_
  exact (sl_append_to [cellsB m #[.pointer (some ⟨p, 0, none⟩)] 107, SetASI p ys] M).trans (Ent.star (show Ent _ (MapASI m ys) from fun _ _ x => ⟨p, x⟩) (Ent.refl _))
theorem atSI_spec (k : SymD) : Ctr Try.prog 56 [k.val] [] (fun v M => v = (PgSI.mk k PgSI.zero.v).val ∧ M = []) := by
  refine spec_of Try.func56 rfl Try.ntmps56 rfl fun w0 F => ?_
  repeat (first | refine g_endt ?_ | refine g_end ?_ | refine g_then ?_ | refine g_in_normal ?_ | refine g_then_ret ?_ | refine g_in_ret ?_ | refine g_then_exit ?_ | refine g_in_exit rfl ?_ | refine g_in_exit_ne (by decide) ?_ | refine g_seq ?_ | refine g_region ?_ | refine g_block ?_ | refine g_ret ?_ | refine g_return_n ?_ | refine g_exit ?_ | refine g_skip ?_)
  refine o_boxc k.val.cells rfl rfl fun b => ?_
  refine o_alloc fun r => ?_
  refine g_endt ?_
  repeat (first | refine g_endt ?_ | refine g_end ?_ | refine g_then ?_ | refine g_in_normal ?_ | refine g_then_ret ?_ | refine g_in_ret ?_ | refine g_then_exit ?_ | refine g_in_exit rfl ?_ | refine g_in_exit_ne (by decide) ?_ | refine g_seq ?_ | refine g_region ?_ | refine g_block ?_ | refine g_ret ?_ | refine g_return_n ?_ | refine g_exit ?_ | refine g_skip ?_)
  refine o_loadN (v := k.val) rfl rfl rfl ?_
  refine o_build (PgSI.mk k PgSI.zero.v).val (fun w => by kernel_rfl) ?_
  refine o_store (v := (PgSI.mk k PgSI.zero.v).val) rfl rfl rfl rfl rfl ?_
  refine g_endt ?_
  repeat (first | refine g_endt ?_ | refine g_end ?_ | refine g_then ?_ | refine g_in_normal ?_ | refine g_then_ret ?_ | refine g_in_ret ?_ | refine g_then_exit ?_ | refine g_in_exit rfl ?_ | refine g_in_exit_ne (by decide) ?_ | refine g_seq ?_ | refine g_region ?_ | refine g_block ?_ | refine g_ret ?_ | refine g_return_n ?_ | refine g_exit ?_ | refine g_skip ?_)
  exact ret1 rfl (resCN (v := (PgSI.mk k PgSI.zero.v).val) rfl rfl rfl) ⟨rfl, rfl⟩
theorem NewMSI_spec : Ctr Try.prog 40 [] [] (fun v M => ∃ m, v = .pointer (some ⟨m, 0, none⟩) ∧ M = [MapASI m []]) := by
  refine spec_of Try.func40 rfl Try.ntmps40 rfl fun w0 F => ?_
  repeat (first | refine g_endt ?_ | refine g_end ?_ | refine g_then ?_ | refine g_in_normal ?_ | refine g_then_ret ?_ | refine g_in_ret ?_ | refine g_then_exit ?_ | refine g_in_exit rfl ?_ | refine g_in_exit_ne (by decide) ?_ | refine g_seq ?_ | refine g_region ?_ | refine g_block ?_ | refine g_ret ?_ | refine g_return_n ?_ | refine g_exit ?_ | refine g_skip ?_)
  refine o_assign ?_
  first | refine g_endt ?_ | refine g_end ?_
  repeat (first | refine g_endt ?_ | refine g_end ?_ | refine g_then ?_ | refine g_in_normal ?_ | refine g_then_ret ?_ | refine g_in_ret ?_ | refine g_then_exit ?_ | refine g_in_exit rfl ?_ | refine g_in_exit_ne (by decide) ?_ | refine g_seq ?_ | refine g_region ?_ | refine g_block ?_ | refine g_ret ?_ | refine g_return_n ?_ | refine g_exit ?_ | refine g_skip ?_)
  refine o_call NewSI_spec rfl rfl ?_
  rintro _ _ ⟨p, rfl, rfl⟩
  refine o_build (.agg #[.pointer (some ⟨p, 0, none⟩)]) (fun w => by kernel_rfl) ?_
  refine o_boxc #[.pointer (some ⟨p, 0, none⟩)] rfl rfl fun m => ?_
  refine o_assign ?_
  refine g_endt ?_
  refine shutMSI m p [] ?_
  repeat (first | refine g_endt ?_ | refine g_end ?_ | refine g_then ?_ | refine g_in_normal ?_ | refine g_then_ret ?_ | refine g_in_ret ?_ | refine g_then_exit ?_ | refine g_in_exit rfl ?_ | refine g_in_exit_ne (by decide) ?_ | refine g_seq ?_ | refine g_region ?_ | refine g_block ?_ | refine g_ret ?_ | refine g_return_n ?_ | refine g_exit ?_ | refine g_skip ?_)
  exact ret1 rfl (resT rfl) ⟨m, rfl, rfl⟩
/-- What a map is behind a Put of k with v that has found place i. -/
def putLSI (ys : List PgSI) (k : SymD) (v : Int) (i : Nat) (there : Bool) : List PgSI := cond there (ys.set i ⟨(ys[i]?.map (·.k)).getD k, v⟩) (ys.take i ++ ⟨k, v⟩ :: ys.drop i)
theorem PutMSI_spec (m : Nat) (ys : List PgSI) (k : SymD) (v : Int) (hs : Srt PgSI.cmp ys) (hl : ys.length < 999999999) : Ctr Try.prog 17 [.pointer (some ⟨m, 0, none⟩), k.val, PgSI.vval v] [MapASI m ys]
    (fun u M => ∃ (i : Nat) (there : Bool), u = .bool !there ∧ M = [MapASI m (putLSI ys k v i there)] ∧ FindR PgSI.cmp ys ⟨k, v⟩ i there) := by
  refine spec_of Try.func17 rfl Try.ntmps17 rfl fun w0 F => ?_
  repeat (first | refine g_endt ?_ | refine g_end ?_ | refine g_then ?_ | refine g_in_normal ?_ | refine g_then_ret ?_ | refine g_in_ret ?_ | refine g_then_exit ?_ | refine g_in_exit rfl ?_ | refine g_in_exit_ne (by decide) ?_ | refine g_seq ?_ | refine g_region ?_ | refine g_block ?_ | refine g_ret ?_ | refine g_return_n ?_ | refine g_exit ?_ | refine g_skip ?_)
  refine openMSI m ys fun p => ?_
  refine o_boxc k.val.cells rfl rfl fun b => ?_
  refine o_assign ?_
  first | refine g_endt ?_ | refine g_end ?_
  repeat (first | refine g_endt ?_ | refine g_end ?_ | refine g_then ?_ | refine g_in_normal ?_ | refine g_then_ret ?_ | refine g_in_ret ?_ | refine g_then_exit ?_ | refine g_in_exit rfl ?_ | refine g_in_exit_ne (by decide) ?_ | refine g_seq ?_ | refine g_region ?_ | refine g_block ?_ | refine g_ret ?_ | refine g_return_n ?_ | refine g_exit ?_ | refine g_skip ?_)
  refine o_move ?_
  refine o_peql rfl ?_
  first | refine g_endt ?_ | refine g_end ?_
  first | refine g_seq (g_cond_f rfl (rfl) ?_) | refine g_cond_f rfl (rfl) ?_
  repeat (first | refine g_endt ?_ | refine g_end ?_ | refine g_then ?_ | refine g_in_normal ?_ | refine g_then_ret ?_ | refine g_in_ret ?_ | refine g_then_exit ?_ | refine g_in_exit rfl ?_ | refine g_in_exit_ne (by decide) ?_ | refine g_seq ?_ | refine g_region ?_ | refine g_block ?_ | refine g_ret ?_ | refine g_return_n ?_ | refine g_exit ?_ | refine g_skip ?_)
  refine g_draw [10, 11] [0,1,2,3,4,5,6,7,8,9,10,11,12] [SetASI p ys, cellsB m #[.pointer (some ⟨p, 0, none⟩)] 107, cellsB b k.val.cells 27] mixed rfl ?_
  refine ob_q rfl rfl ⟨_, fun X Q h => o_move (g_end (h _ _ ⟨rfl, rfl⟩)), ?_⟩
  refine ob_q rfl rfl ⟨_, fun X Q h => o_nil rfl (g_end (h _ _ ⟨rfl, rfl⟩)), ?_⟩
  refine ob_q rfl rfl ⟨_, fun X Q h => o_field rfl (g_end (h _ _ ⟨rfl, rfl⟩)), ?_⟩
  refine ob_q rfl rfl ⟨_, fun X Q h => o_load1 (v := .pointer (some ⟨p, 0, none⟩)) rfl rfl (g_end (h _ _ ⟨rfl, rfl⟩)), ?_⟩
  refine ob_q rfl rfl ⟨_, fun X Q h => o_loadN (v := k.val) rfl rfl rfl (g_end (h _ _ ⟨rfl, rfl⟩)), ?_⟩
  refine ob_q rfl rfl ⟨_, fun X Q h => o_call (atSI_spec k) rfl rfl <| by rintro _ _ ⟨rfl, rfl⟩; exact (g_end (h _ _ ⟨rfl, rfl⟩)), ?_⟩
  refine ob_q rfl rfl ⟨_, fun X Q h => o_call (GetMSI_spec p ys ⟨k, PgSI.zero.v⟩ hs (by omega)) rfl rfl <| by rintro _ _ ⟨rfl, rfl⟩; exact (g_end (h _ _ ⟨rfl, rfl⟩)), ?_⟩
  refine ob_q rfl rfl ⟨_, fun X Q h => o_move (g_end (h _ _ ⟨rfl, rfl⟩)), ?_⟩
  refine ob_q rfl rfl ⟨_, fun X Q h => o_extract rfl rfl (g_end (h _ _ ⟨rfl, rfl⟩)), ?_⟩
  refine ob_q rfl rfl ⟨_, fun X Q h => o_extract rfl rfl (g_end (h _ _ ⟨rfl, rfl⟩)), ?_⟩
  generalize ho : getM PgSI.cmp ys ⟨k, PgSI.zero.v⟩ = o
  refine ob_l rfl rfl fun Qz hz => o_alloc fun r => g_end (hz _ _ ⟨_, ob_fin, ?_⟩)
  clear hz Qz
  refine ob_l rfl rfl fun Qz hz => o_store (v := (o.getD PgSI.zero).val) rfl rfl rfl rfl rfl <| g_end (hz _ _ ⟨_, ob_fin, ?_⟩)
  clear hz Qz
  refine ob_q rfl rfl ⟨_, fun X Q h => o_assign (g_end (h _ _ ⟨rfl, rfl⟩)), ?_⟩
  refine ob_nil ?_
  refine G.norm r (o.getD PgSI.zero).val.cells rfl ?_
  repeat (first | refine g_endt ?_ | refine g_end ?_ | refine g_then ?_ | refine g_in_normal ?_ | refine g_then_ret ?_ | refine g_in_ret ?_ | refine g_then_exit ?_ | refine g_in_exit rfl ?_ | refine g_in_exit_ne (by decide) ?_ | refine g_seq ?_ | refine g_region ?_ | refine g_block ?_ | refine g_ret ?_ | refine g_return_n ?_ | refine g_exit ?_ | refine g_skip ?_)
  refine o_move ?_
  refine o_not rfl ?_
  refine g_endt ?_
  cases o with
  | none =>
    first | refine g_seq (g_cond_t rfl (rfl) ?_) | refine g_cond_t rfl (rfl) ?_
    repeat (first | refine g_endt ?_ | refine g_end ?_ | refine g_then ?_ | refine g_in_normal ?_ | refine g_then_ret ?_ | refine g_in_ret ?_ | refine g_then_exit ?_ | refine g_in_exit rfl ?_ | refine g_in_exit_ne (by decide) ?_ | refine g_seq ?_ | refine g_region ?_ | refine g_block ?_ | refine g_ret ?_ | refine g_return_n ?_ | refine g_exit ?_ | refine g_skip ?_)
    refine g_draw [7] [0,1,2,3,4,5,6,7,8] [cellsB m #[.pointer (some ⟨p, 0, none⟩)] 107, cellsB b k.val.cells 27] mixed rfl ?_
    refine ob_q rfl rfl ⟨_, fun X Q h => o_move (g_end (h _ _ ⟨rfl, rfl⟩)), ?_⟩
    refine ob_q rfl rfl ⟨_, fun X Q h => o_nil rfl (g_end (h _ _ ⟨rfl, rfl⟩)), ?_⟩
    refine ob_q rfl rfl ⟨_, fun X Q h => o_field rfl (g_end (h _ _ ⟨rfl, rfl⟩)), ?_⟩
    refine ob_q rfl rfl ⟨_, fun X Q h => o_load1 (v := .pointer (some ⟨p, 0, none⟩)) rfl rfl (g_end (h _ _ ⟨rfl, rfl⟩)), ?_⟩
    refine ob_q rfl rfl ⟨_, fun X Q h => o_loadN (v := k.val) rfl rfl rfl (g_end (h _ _ ⟨rfl, rfl⟩)), ?_⟩
    refine ob_q rfl rfl ⟨_, fun X Q h => o_move (g_end (h _ _ ⟨rfl, rfl⟩)), ?_⟩
    refine ob_q rfl rfl ⟨_, fun X Q h => o_build (PgSI.mk k v).val (fun w => by kernel_rfl) (g_end (h _ _ ⟨rfl, rfl⟩)), ?_⟩
    refine ob_l rfl rfl fun Qz hz => o_call (PutSI_spec p ys ⟨k, v⟩ hs (by omega)) rfl rfl ?_
    rintro _ M1 ⟨i, there, rfl, hM, hk⟩
    have ht : there = false := by
      cases there with
      | false => rfl
      | true =>
        obtain ⟨y, hy, _⟩ := hk.2.1 rfl
        have hg : getM PgSI.cmp ys ⟨k, PgSI.zero.v⟩ = some y := getM_some PgSI.lin hs hk hy
        rw [ho] at hg; cases hg
    subst ht
    have hM : M1 = [SetASI p (putLSI ys k v i false)] := hM
    subst hM
    refine g_end (hz _ _ ⟨_, ob_fin, ?_⟩)
    clear hz Qz
    refine ob_q rfl rfl ⟨_, fun X Q h => o_assign (g_end (h _ _ ⟨rfl, rfl⟩)), ?_⟩
    refine ob_nil ?_
    refine shutMSI m p (putLSI ys k v i false) ?_
    repeat (first | refine g_endt ?_ | refine g_end ?_ | refine g_then ?_ | refine g_in_normal ?_ | refine g_then_ret ?_ | refine g_in_ret ?_ | refine g_then_exit ?_ | refine g_in_exit rfl ?_ | refine g_in_exit_ne (by decide) ?_ | refine g_seq ?_ | refine g_region ?_ | refine g_block ?_ | refine g_ret ?_ | refine g_return_n ?_ | refine g_exit ?_ | refine g_skip ?_)
    exact ret1 rfl (resT rfl) ⟨i, false, rfl, rfl, hk⟩
  | some old =>
    first | refine g_seq (g_cond_f rfl (rfl) ?_) | refine g_cond_f rfl (rfl) ?_
    obtain ⟨i, hi, hy⟩ : ∃ i, FindR PgSI.cmp ys ⟨k, PgSI.zero.v⟩ i true ∧ ys[i]? = some old := by
      have h1 := List.find?_some ho
      have h2 := List.mem_of_find?_eq_some ho
      obtain ⟨j, hj⟩ := List.mem_iff_getElem?.1 h2
      exact ⟨j, ⟨by have := (List.getElem?_eq_some_iff.1 hj).1; omega, fun _ => ⟨old, hj, by simpa using h1⟩, fun e => by cases e⟩, hj⟩
    have hc : PgSI.cmp old ⟨k, PgSI.zero.v⟩ = 0 := by
      obtain ⟨a, ha, ea⟩ := hi.2.1 rfl
      rw [hy] at ha; cases ha; exact ea
    refine G.norm r old.val.cells rfl ?_
    have hself : FindR PgSI.cmp ys old i true := ⟨hi.1, fun _ => ⟨old, hy, PgSI.lin.refl old⟩, fun e => by cases e⟩
    repeat (first | refine g_endt ?_ | refine g_end ?_ | refine g_then ?_ | refine g_in_normal ?_ | refine g_then_ret ?_ | refine g_in_ret ?_ | refine g_then_exit ?_ | refine g_in_exit rfl ?_ | refine g_in_exit_ne (by decide) ?_ | refine g_seq ?_ | refine g_region ?_ | refine g_block ?_ | refine g_ret ?_ | refine g_return_n ?_ | refine g_exit ?_ | refine g_skip ?_)
    refine g_draw [5] [0,1,2,3,4,5] [cellsB m #[.pointer (some ⟨p, 0, none⟩)] 107, cellsB r old.val.cells 110] mixed rfl ?_
    refine ob_q rfl rfl ⟨_, fun X Q h => o_move (g_end (h _ _ ⟨rfl, rfl⟩)), ?_⟩
    refine ob_q rfl rfl ⟨_, fun X Q h => o_nil rfl (g_end (h _ _ ⟨rfl, rfl⟩)), ?_⟩
    refine ob_q rfl rfl ⟨_, fun X Q h => o_field rfl (g_end (h _ _ ⟨rfl, rfl⟩)), ?_⟩
    refine ob_q rfl rfl ⟨_, fun X Q h => o_load1 (v := .pointer (some ⟨p, 0, none⟩)) rfl rfl (g_end (h _ _ ⟨rfl, rfl⟩)), ?_⟩
    refine ob_q rfl rfl ⟨_, fun X Q h => o_loadN (v := old.val) rfl rfl rfl (g_end (h _ _ ⟨rfl, rfl⟩)), ?_⟩
    refine ob_l rfl rfl fun Qz hz => o_call (DropSI_spec p ys old hs (by omega)) rfl rfl ?_
    rintro _ M1 ⟨i1, there, rfl, hM, hk⟩
    have ht : there = true := by
      cases there with
      | true => rfl
      | false =>
        obtain ⟨h1, h2⟩ := hk.2.2 rfl
        have h3 := PgSI.lin.refl old
        by_cases hlt : i < i1
        · have := h1 i old hlt hy; omega
        · have := h2 i old (by omega) hy; omega
    subst ht
    have hii : i1 = i := FindR.one PgSI.lin hs hk hself
    subst hii
    have hM : M1 = [SetASI p (ys.eraseIdx i1)] := hM
    subst hM
    refine g_end (hz _ _ ⟨_, ob_fin, ?_⟩)
    clear hz Qz
    refine ob_nil ?_
    repeat (first | refine g_endt ?_ | refine g_end ?_ | refine g_then ?_ | refine g_in_normal ?_ | refine g_then_ret ?_ | refine g_in_ret ?_ | refine g_then_exit ?_ | refine g_in_exit rfl ?_ | refine g_in_exit_ne (by decide) ?_ | refine g_seq ?_ | refine g_region ?_ | refine g_block ?_ | refine g_ret ?_ | refine g_return_n ?_ | refine g_exit ?_ | refine g_skip ?_)
    refine g_draw [8] [0,1,2,3,4,5,6,7,8] [cellsB m #[.pointer (some ⟨p, 0, none⟩)] 107, cellsB r old.val.cells 110] mixed rfl ?_
    refine ob_q rfl rfl ⟨_, fun X Q h => o_move (g_end (h _ _ ⟨rfl, rfl⟩)), ?_⟩
    refine ob_q rfl rfl ⟨_, fun X Q h => o_nil rfl (g_end (h _ _ ⟨rfl, rfl⟩)), ?_⟩
    refine ob_q rfl rfl ⟨_, fun X Q h => o_field rfl (g_end (h _ _ ⟨rfl, rfl⟩)), ?_⟩
    refine ob_q rfl rfl ⟨_, fun X Q h => o_load1 (v := .pointer (some ⟨p, 0, none⟩)) rfl rfl (g_end (h _ _ ⟨rfl, rfl⟩)), ?_⟩
    refine ob_q rfl rfl ⟨_, fun X Q h => o_field rfl (g_end (h _ _ ⟨rfl, rfl⟩)), ?_⟩
    refine ob_q rfl rfl ⟨_, fun X Q h => o_loadN (v := old.k.val) rfl rfl rfl (g_end (h _ _ ⟨rfl, rfl⟩)), ?_⟩
    refine ob_q rfl rfl ⟨_, fun X Q h => o_move (g_end (h _ _ ⟨rfl, rfl⟩)), ?_⟩
    refine ob_q rfl rfl ⟨_, fun X Q h => o_build (PgSI.mk old.k v).val (fun w => by kernel_rfl) (g_end (h _ _ ⟨rfl, rfl⟩)), ?_⟩
    refine ob_l rfl rfl fun Qz hz => o_call (PutSI_spec p (ys.eraseIdx i1) ⟨old.k, v⟩ (Srt.erase hs i1) (by have : (ys.eraseIdx i1).length ≤ ys.length := List.length_eraseIdx_le _ _; omega)) rfl rfl ?_
    rintro _ M2 ⟨i2, there, rfl, hM, hk2⟩
    have hrep := replace PgSI.lin hs hy (x := ⟨old.k, v⟩) (PgSI.lin.refl old) hk2
    obtain ⟨rfl, hrep⟩ := hrep
    have hM : M2 = [SetASI p (putLSI ys k v i1 true)] := by
      rw [hM]
      show [SetASI p _] = [SetASI p (ys.set i1 ⟨(ys[i1]?.map (·.k)).getD k, v⟩)]
      rw [hy]
      show [SetASI p ((ys.eraseIdx i1).take i2 ++ ⟨old.k, v⟩ :: (ys.eraseIdx i1).drop i2)] = _
      rw [hrep]
      rfl
    subst hM
    refine g_end (hz _ _ ⟨_, ob_fin, ?_⟩)
    clear hz Qz
    refine ob_nil ?_
    repeat (first | refine g_endt ?_ | refine g_end ?_ | refine g_then ?_ | refine g_in_normal ?_ | refine g_then_ret ?_ | refine g_in_ret ?_ | refine g_then_exit ?_ | refine g_in_exit rfl ?_ | refine g_in_exit_ne (by decide) ?_ | refine g_seq ?_ | refine g_region ?_ | refine g_block ?_ | refine g_ret ?_ | refine g_return_n ?_ | refine g_exit ?_ | refine g_skip ?_)
    refine o_assign ?_
    first | refine g_endt ?_ | refine g_end ?_
    refine shutMSI m p (putLSI ys k v i1 true) ?_
    repeat (first | refine g_endt ?_ | refine g_end ?_ | refine g_then ?_ | refine g_in_normal ?_ | refine g_then_ret ?_ | refine g_in_ret ?_ | refine g_then_exit ?_ | refine g_in_exit rfl ?_ | refine g_in_exit_ne (by decide) ?_ | refine g_seq ?_ | refine g_region ?_ | refine g_block ?_ | refine g_ret ?_ | refine g_return_n ?_ | refine g_exit ?_ | refine g_skip ?_)
    exact ret1 rfl (resT rfl) ⟨i1, true, rfl, rfl, hi⟩
end Go.Proofs.Ytlognaddmbolgaa
/- An ordered set's functions, for one type of members: at a place, how many. -/
namespace Go.Proofs.Ytlognaddmbolgaa
open Go Go.Sl
attribute [local irreducible] Code.wpIn roundPost bodyPostM runL Ret Meets Begin

theorem LenSI_spec (p : Nat) (ys : List PgSI) : Ctr Try.prog 75 [.pointer (some ⟨p, 0, none⟩)] [SetASI p ys] (fun v M => v = .int .i64 (ys.length : Int) ∧ M = [SetASI p ys]) := by
  refine spec_of Try.func75 rfl Try.ntmps75 rfl fun w0 F => ?_
  repeat (first | refine g_endt ?_ | refine g_end ?_ | refine g_then ?_ | refine g_in_normal ?_ | refine g_then_ret ?_ | refine g_in_ret ?_ | refine g_then_exit ?_ | refine g_in_exit rfl ?_ | refine g_in_exit_ne (by decide) ?_ | refine g_seq ?_ | refine g_region ?_ | refine g_block ?_ | refine g_ret ?_ | refine g_return_n ?_ | refine g_exit ?_ | refine g_skip ?_)
  refine o_assign ?_
  first | refine g_endt ?_ | refine g_end ?_
  repeat (first | refine g_endt ?_ | refine g_end ?_ | refine g_then ?_ | refine g_in_normal ?_ | refine g_then_ret ?_ | refine g_in_ret ?_ | refine g_then_exit ?_ | refine g_in_exit rfl ?_ | refine g_in_exit_ne (by decide) ?_ | refine g_seq ?_ | refine g_region ?_ | refine g_block ?_ | refine g_ret ?_ | refine g_return_n ?_ | refine g_exit ?_ | refine g_skip ?_)
  refine o_move ?_
  refine o_peql rfl ?_
  first | refine g_endt ?_ | refine g_end ?_
  first | refine g_seq (g_cond_f rfl (rfl) ?_) | refine g_cond_f rfl (rfl) ?_
  repeat (first | refine g_endt ?_ | refine g_end ?_ | refine g_then ?_ | refine g_in_normal ?_ | refine g_then_ret ?_ | refine g_in_ret ?_ | refine g_then_exit ?_ | refine g_in_exit rfl ?_ | refine g_in_exit_ne (by decide) ?_ | refine g_seq ?_ | refine g_region ?_ | refine g_block ?_ | refine g_ret ?_ | refine g_return_n ?_ | refine g_exit ?_ | refine g_skip ?_)
  refine openSI p ys fun S c b => ?_
  refine o_move ?_
  refine o_nil rfl ?_
  refine o_field rfl ?_
  refine o_load1 (v := .slice S ys.length c) rfl rfl ?_
  refine o_len rfl rfl ?_
  refine o_assign ?_
  refine g_endt ?_
  refine shutSI p ys S c b rfl ?_
  repeat (first | refine g_endt ?_ | refine g_end ?_ | refine g_then ?_ | refine g_in_normal ?_ | refine g_then_ret ?_ | refine g_in_ret ?_ | refine g_then_exit ?_ | refine g_in_exit rfl ?_ | refine g_in_exit_ne (by decide) ?_ | refine g_seq ?_ | refine g_region ?_ | refine g_block ?_ | refine g_ret ?_ | refine g_return_n ?_ | refine g_exit ?_ | refine g_skip ?_)
  exact ret1 rfl (resT rfl) ⟨rfl, rfl⟩
end Go.Proofs.Ytlognaddmbolgaa
/- An ordered map's functions, for one type of keys and one of values: asked, dropped, how many. -/
namespace Go.Proofs.Ytlognaddmbolgaa
open Go Go.Sl
attribute [local irreducible] Code.wpIn roundPost bodyPostM runL Ret Meets Begin

theorem LenMSI_spec (m : Nat) (ys : List PgSI) : Ctr Try.prog 45 [.pointer (some ⟨m, 0, none⟩)] [MapASI m ys] (fun v M => v = .int .i64 (ys.length : Int) ∧ M = [MapASI m ys]) := by
  refine spec_of Try.func45 rfl Try.ntmps45 rfl fun w0 F => ?_
  repeat (first | refine g_endt ?_ | refine g_end ?_ | refine g_then ?_ | refine g_in_normal ?_ | refine g_then_ret ?_ | refine g_in_ret ?_ | refine g_then_exit ?_ | refine g_in_exit rfl ?_ | refine g_in_exit_ne (by decide) ?_ | refine g_seq ?_ | refine g_region ?_ | refine g_block ?_ | refine g_ret ?_ | refine g_return_n ?_ | refine g_exit ?_ | refine g_skip ?_)
  refine o_assign ?_
  first | refine g_endt ?_ | refine g_end ?_
  repeat (first | refine g_endt ?_ | refine g_end ?_ | refine g_then ?_ | refine g_in_normal ?_ | refine g_then_ret ?_ | refine g_in_ret ?_ | refine g_then_exit ?_ | refine g_in_exit rfl ?_ | refine g_in_exit_ne (by decide) ?_ | refine g_seq ?_ | refine g_region ?_ | refine g_block ?_ | refine g_ret ?_ | refine g_return_n ?_ | refine g_exit ?_ | refine g_skip ?_)
  refine o_move ?_
  refine o_peql rfl ?_
  first | refine g_endt ?_ | refine g_end ?_
  first | refine g_seq (g_cond_f rfl (rfl) ?_) | refine g_cond_f rfl (rfl) ?_
  repeat (first | refine g_endt ?_ | refine g_end ?_ | refine g_then ?_ | refine g_in_normal ?_ | refine g_then_ret ?_ | refine g_in_ret ?_ | refine g_then_exit ?_ | refine g_in_exit rfl ?_ | refine g_in_exit_ne (by decide) ?_ | refine g_seq ?_ | refine g_region ?_ | refine g_block ?_ | refine g_ret ?_ | refine g_return_n ?_ | refine g_exit ?_ | refine g_skip ?_)
  refine openMSI m ys fun p => ?_
  refine o_move ?_
  refine o_nil rfl ?_
  refine o_field rfl ?_
  refine o_load1 (v := .pointer (some ⟨p, 0, none⟩)) rfl rfl ?_
  refine o_call (LenSI_spec p ys) rfl rfl ?_
  rintro _ _ ⟨rfl, rfl⟩
  refine o_assign ?_
  refine g_endt ?_
  refine shutMSI m p ys ?_
  repeat (first | refine g_endt ?_ | refine g_end ?_ | refine g_then ?_ | refine g_in_normal ?_ | refine g_then_ret ?_ | refine g_in_ret ?_ | refine g_then_exit ?_ | refine g_in_exit rfl ?_ | refine g_in_exit_ne (by decide) ?_ | refine g_seq ?_ | refine g_region ?_ | refine g_block ?_ | refine g_ret ?_ | refine g_return_n ?_ | refine g_exit ?_ | refine g_skip ?_)
  exact ret1 rfl (resT rfl) ⟨rfl, rfl⟩
theorem GetMapSI_spec (m : Nat) (ys : List PgSI) (k : SymD) (hs : Srt PgSI.cmp ys) (hl : ys.length < 1000000000) : Ctr Try.prog 38 [.pointer (some ⟨m, 0, none⟩), k.val] [MapASI m ys]
    (fun u M => u = .tuple #[PgSI.vval ((getM PgSI.cmp ys ⟨k, PgSI.zero.v⟩).getD PgSI.zero).v, .bool (getM PgSI.cmp ys ⟨k, PgSI.zero.v⟩).isSome] ∧ M = [MapASI m ys]) := by
  refine spec_of Try.func38 rfl Try.ntmps38 rfl fun w0 F => ?_
  repeat (first | refine g_endt ?_ | refine g_end ?_ | refine g_then ?_ | refine g_in_normal ?_ | refine g_then_ret ?_ | refine g_in_ret ?_ | refine g_then_exit ?_ | refine g_in_exit rfl ?_ | refine g_in_exit_ne (by decide) ?_ | refine g_seq ?_ | refine g_region ?_ | refine g_block ?_ | refine g_ret ?_ | refine g_return_n ?_ | refine g_exit ?_ | refine g_skip ?_)
  refine openMSI m ys fun p => ?_
  refine o_boxc k.val.cells rfl rfl fun b => ?_
  refine o_assign ?_
  refine o_assign ?_
  refine g_endt ?_
  repeat (first | refine g_endt ?_ | refine g_end ?_ | refine g_then ?_ | refine g_in_normal ?_ | refine g_then_ret ?_ | refine g_in_ret ?_ | refine g_then_exit ?_ | refine g_in_exit rfl ?_ | refine g_in_exit_ne (by decide) ?_ | refine g_seq ?_ | refine g_region ?_ | refine g_block ?_ | refine g_ret ?_ | refine g_return_n ?_ | refine g_exit ?_ | refine g_skip ?_)
  refine o_move ?_
  refine o_peql rfl ?_
  first | refine g_endt ?_ | refine g_end ?_
  first | refine g_seq (g_cond_f rfl (rfl) ?_) | refine g_cond_f rfl (rfl) ?_
  repeat (first | refine g_endt ?_ | refine g_end ?_ | refine g_then ?_ | refine g_in_normal ?_ | refine g_then_ret ?_ | refine g_in_ret ?_ | refine g_then_exit ?_ | refine g_in_exit rfl ?_ | refine g_in_exit_ne (by decide) ?_ | refine g_seq ?_ | refine g_region ?_ | refine g_block ?_ | refine g_ret ?_ | refine g_return_n ?_ | refine g_exit ?_ | refine g_skip ?_)
  refine g_draw [10, 11] [0,1,2,3,4,5,6,7,8,9,10,11,12] [SetASI p ys, cellsB m #[.pointer (some ⟨p, 0, none⟩)] 107, cellsB b k.val.cells 27] mixed rfl ?_
  refine ob_q rfl rfl ⟨_, fun X Q h => o_move (g_end (h _ _ ⟨rfl, rfl⟩)), ?_⟩
  refine ob_q rfl rfl ⟨_, fun X Q h => o_nil rfl (g_end (h _ _ ⟨rfl, rfl⟩)), ?_⟩
  refine ob_q rfl rfl ⟨_, fun X Q h => o_field rfl (g_end (h _ _ ⟨rfl, rfl⟩)), ?_⟩
  refine ob_q rfl rfl ⟨_, fun X Q h => o_load1 (v := .pointer (some ⟨p, 0, none⟩)) rfl rfl (g_end (h _ _ ⟨rfl, rfl⟩)), ?_⟩
  refine ob_q rfl rfl ⟨_, fun X Q h => o_loadN (v := k.val) rfl rfl rfl (g_end (h _ _ ⟨rfl, rfl⟩)), ?_⟩
  refine ob_q rfl rfl ⟨_, fun X Q h => o_call (atSI_spec k) rfl rfl <| by rintro _ _ ⟨rfl, rfl⟩; exact (g_end (h _ _ ⟨rfl, rfl⟩)), ?_⟩
  refine ob_q rfl rfl ⟨_, fun X Q h => o_call (GetMSI_spec p ys ⟨k, PgSI.zero.v⟩ hs hl) rfl rfl <| by rintro _ _ ⟨rfl, rfl⟩; exact (g_end (h _ _ ⟨rfl, rfl⟩)), ?_⟩
  refine ob_q rfl rfl ⟨_, fun X Q h => o_move (g_end (h _ _ ⟨rfl, rfl⟩)), ?_⟩
  refine ob_q rfl rfl ⟨_, fun X Q h => o_extract rfl rfl (g_end (h _ _ ⟨rfl, rfl⟩)), ?_⟩
  refine ob_q rfl rfl ⟨_, fun X Q h => o_extract rfl rfl (g_end (h _ _ ⟨rfl, rfl⟩)), ?_⟩
  generalize ho : getM PgSI.cmp ys ⟨k, PgSI.zero.v⟩ = o
  refine ob_l rfl rfl fun Qz hz => o_alloc fun r => g_end (hz _ _ ⟨_, ob_fin, ?_⟩)
  clear hz Qz
  refine ob_l rfl rfl fun Qz hz => o_store (v := (o.getD PgSI.zero).val) rfl rfl rfl rfl rfl <| g_end (hz _ _ ⟨_, ob_fin, ?_⟩)
  clear hz Qz
  refine ob_q rfl rfl ⟨_, fun X Q h => o_assign (g_end (h _ _ ⟨rfl, rfl⟩)), ?_⟩
  refine ob_nil ?_
  refine G.norm r (o.getD PgSI.zero).val.cells rfl ?_
  generalize o.getD PgSI.zero = y
  repeat (first | refine g_endt ?_ | refine g_end ?_ | refine g_then ?_ | refine g_in_normal ?_ | refine g_then_ret ?_ | refine g_in_ret ?_ | refine g_then_exit ?_ | refine g_in_exit rfl ?_ | refine g_in_exit_ne (by decide) ?_ | refine g_seq ?_ | refine g_region ?_ | refine g_block ?_ | refine g_ret ?_ | refine g_return_n ?_ | refine g_exit ?_ | refine g_skip ?_)
  refine o_field rfl ?_
  refine o_load1 (v := PgSI.vval y.v) rfl rfl ?_
  refine o_move ?_
  refine o_assign ?_
  refine o_assign ?_
  refine g_endt ?_
  refine shutMSI m p ys ?_
  repeat (first | refine g_endt ?_ | refine g_end ?_ | refine g_then ?_ | refine g_in_normal ?_ | refine g_then_ret ?_ | refine g_in_ret ?_ | refine g_then_exit ?_ | refine g_in_exit rfl ?_ | refine g_in_exit_ne (by decide) ?_ | refine g_seq ?_ | refine g_region ?_ | refine g_block ?_ | refine g_ret ?_ | refine g_return_n ?_ | refine g_exit ?_ | refine g_skip ?_)
  exact ret2 (K := [MapASI m ys]) rfl (resT rfl) (resT rfl) ⟨rfl, rfl⟩
end Go.Proofs.Ytlognaddmbolgaa
/- A list of symbols told; how often each stands in it, counted. -/
namespace Go.Proofs.Ytlognaddmbolgaa
open Go Go.Sl
attribute [local irreducible] Code.wpIn roundPost bodyPostM runL Ret Meets Begin

def encS1 (s : SymD) : List Value := [s.val]
theorem OfSym1_iter (b : Nat) (A : Option Addr) (len cap : Nat) (ys : List SymD) (hl : ys.length = len) (hm : len ≤ 9223372036854775807) (J0 : List SProp) [HasP J0 (pblk b (.cells #[.slice A len cap] 35 (0, 0)))] [HasP J0 (psl encS 3 A ys)] :
    Iter Try.prog 70 [.pointer (some ⟨b, 0, none⟩)] encS1 ys J0 := by
  intro l J Jx hJ hy
  refine spec_of Try.func70 rfl Try.ntmps70 rfl fun w0 F => ?_
  refine G.dup (pblk b (.cells #[.slice A len cap] 35 (0, 0))) ?_
  refine G.dup (psl encS 3 A ys) ?_
  subst hJ
  repeat (first | refine g_endt ?_ | refine g_end ?_ | refine g_then ?_ | refine g_in_normal ?_ | refine g_then_ret ?_ | refine g_in_ret ?_ | refine g_then_exit ?_ | refine g_in_exit rfl ?_ | refine g_in_exit_ne (by decide) ?_ | refine g_seq ?_ | refine g_region ?_ | refine g_block ?_ | refine g_ret ?_ | refine g_return_n ?_ | refine g_exit ?_ | refine g_skip ?_)
  refine o_assign ?_
  first | refine g_endt ?_ | refine g_end ?_
  repeat (first | refine g_endt ?_ | refine g_end ?_ | refine g_then ?_ | refine g_in_normal ?_ | refine g_then_ret ?_ | refine g_in_ret ?_ | refine g_then_exit ?_ | refine g_in_exit rfl ?_ | refine g_in_exit_ne (by decide) ?_ | refine g_seq ?_ | refine g_region ?_ | refine g_block ?_ | refine g_ret ?_ | refine g_return_n ?_ | refine g_exit ?_ | refine g_skip ?_)
  refine g_loop (σ := {i : Nat // i ≤ ys.length}) (S := fun i => [(0, .func (.yield l) #[] #[]), (1, .pointer (some ⟨b, 0, none⟩)), (3, .int .i64 ((i.1 : Nat) : Int))])
    (H := fun i => psl encS 3 A ys :: pblk b (.cells #[.slice A len cap] 35 (0, 0)) :: J (ys.take i.1)) (μ := fun i => ys.length - i.1) (s0 := ⟨0, Nat.zero_le _⟩) (Sat.mem ⟨rfl, rfl, rfl, trivial⟩) (t := by simp only [List.take_zero]; infer_instance) ?_
  rintro ⟨i, hi⟩ ρ'
  dsimp only
  repeat (first | refine g_endt ?_ | refine g_end ?_ | refine g_then ?_ | refine g_in_normal ?_ | refine g_then_ret ?_ | refine g_in_ret ?_ | refine g_then_exit ?_ | refine g_in_exit rfl ?_ | refine g_in_exit_ne (by decide) ?_ | refine g_seq ?_ | refine g_region ?_ | refine g_block ?_ | refine g_ret ?_ | refine g_return_n ?_ | refine g_exit ?_ | refine g_skip ?_)
  refine o_move ?_
  refine o_load1 rfl rfl ?_
  refine o_len rfl rfl ?_
  refine o_lss rfl rfl ?_
  first | refine g_endt ?_ | refine g_end ?_
  by_cases h : i < len
  · first | refine g_seq (g_cond_t rfl (by simpa using h) ?_) | refine g_cond_t rfl (by simpa using h) ?_
    have hi' : i < ys.length := by omega
    obtain ⟨y, hz⟩ : ∃ y, ys[i]? = some y := ⟨_, List.getElem?_eq_getElem hi'⟩
    have ht := take_snoc ys i _ hz
    repeat (first | refine g_endt ?_ | refine g_end ?_ | refine g_then ?_ | refine g_in_normal ?_ | refine g_then_ret ?_ | refine g_in_ret ?_ | refine g_then_exit ?_ | refine g_in_exit rfl ?_ | refine g_in_exit_ne (by decide) ?_ | refine g_seq ?_ | refine g_region ?_ | refine g_block ?_ | refine g_ret ?_ | refine g_return_n ?_ | refine g_exit ?_ | refine g_skip ?_)
    refine o_move ?_
    refine o_load1 (v := .slice A len cap) rfl rfl ?_
    refine o_move ?_
    refine o_indexR rfl rfl rfl hi' hl rfl ?_
    refine o_loadE (enc := encS) rfl rfl hz ?_
    have hp : (ys.take i ++ [y]) <+: ys := ⟨ys.drop (i + 1), by rw [← ht, List.take_append_drop]⟩
    refine o_yield (hy (ys.take i) y hp) rfl rfl ?_ ?_
    · refine o_not rfl ?_
      refine g_endt ?_
      refine g_cond_f rfl rfl ?_
      repeat (first | refine g_endt ?_ | refine g_end ?_ | refine g_then ?_ | refine g_in_normal ?_ | refine g_then_ret ?_ | refine g_in_ret ?_ | refine g_then_exit ?_ | refine g_in_exit rfl ?_ | refine g_in_exit_ne (by decide) ?_ | refine g_seq ?_ | refine g_region ?_ | refine g_block ?_ | refine g_ret ?_ | refine g_return_n ?_ | refine g_exit ?_ | refine g_skip ?_)
      refine o_move ?_
      refine o_add rfl rfl rfl (by omega) (by omega) ?_
      refine o_assign ?_
      first | refine g_endt ?_ | refine g_end ?_
      repeat (first | refine g_endt ?_ | refine g_end ?_ | refine g_then ?_ | refine g_in_normal ?_ | refine g_then_ret ?_ | refine g_in_ret ?_ | refine g_then_exit ?_ | refine g_in_exit rfl ?_ | refine g_in_exit_ne (by decide) ?_ | refine g_seq ?_ | refine g_region ?_ | refine g_block ?_ | refine g_ret ?_ | refine g_return_n ?_ | refine g_exit ?_ | refine g_skip ?_)
      exact g_meets ⟨i + 1, hi'⟩ (by show ys.length - (i + 1) < ys.length - i; omega) (Sat.mem ⟨rfl, rfl, rfl, trivial⟩) (t := by rw [ht]; infer_instance)
    · refine o_not rfl ?_
      refine g_endt ?_
      refine g_cond_t rfl rfl ?_
      repeat (first | refine g_endt ?_ | refine g_end ?_ | refine g_then ?_ | refine g_in_normal ?_ | refine g_then_ret ?_ | refine g_in_ret ?_ | refine g_then_exit ?_ | refine g_in_exit rfl ?_ | refine g_in_exit_ne (by decide) ?_ | refine g_seq ?_ | refine g_region ?_ | refine g_block ?_ | refine g_ret ?_ | refine g_return_n ?_ | refine g_exit ?_ | refine g_skip ?_)
      exact ret0 rfl (.inr ⟨_, hp, rfl⟩)
  · first | refine g_seq (g_cond_f rfl (by simpa using h) ?_) | refine g_cond_f rfl (by simpa using h) ?_
    repeat (first | refine g_endt ?_ | refine g_end ?_ | refine g_then ?_ | refine g_in_normal ?_ | refine g_then_ret ?_ | refine g_in_ret ?_ | refine g_then_exit ?_ | refine g_in_exit rfl ?_ | refine g_in_exit_ne (by decide) ?_ | refine g_seq ?_ | refine g_region ?_ | refine g_block ?_ | refine g_ret ?_ | refine g_return_n ?_ | refine g_exit ?_ | refine g_skip ?_)
    have he : ys.take i = ys := List.take_of_length_le (by omega)
    exact ret0 (K := J (ys.take i)) rfl (.inl (by rw [he]))
theorem OfSym_spec (A : Option Addr) (len cap : Nat) : Ctr Try.prog 37 [.slice A len cap] []
    (fun v M => ∃ b, v = .func (.func 70) #[] #[.pointer (some ⟨b, 0, none⟩)] ∧ M = [pblk b (.cells #[.slice A len cap] 35 (0, 0))]) := by
  refine spec_of Try.func37 rfl Try.ntmps37 rfl fun w0 F => ?_
  repeat (first | refine g_endt ?_ | refine g_end ?_ | refine g_then ?_ | refine g_in_normal ?_ | refine g_then_ret ?_ | refine g_in_ret ?_ | refine g_then_exit ?_ | refine g_in_exit rfl ?_ | refine g_in_exit_ne (by decide) ?_ | refine g_seq ?_ | refine g_region ?_ | refine g_block ?_ | refine g_ret ?_ | refine g_return_n ?_ | refine g_exit ?_ | refine g_skip ?_)
  refine o_boxc #[.slice A len cap] rfl rfl fun b => ?_
  refine G.freeze ?_
  refine o_assign ?_
  first | refine g_endt ?_ | refine g_end ?_
  repeat (first | refine g_endt ?_ | refine g_end ?_ | refine g_then ?_ | refine g_in_normal ?_ | refine g_then_ret ?_ | refine g_in_ret ?_ | refine g_then_exit ?_ | refine g_in_exit rfl ?_ | refine g_in_exit_ne (by decide) ?_ | refine g_seq ?_ | refine g_region ?_ | refine g_block ?_ | refine g_ret ?_ | refine g_return_n ?_ | refine g_exit ?_ | refine g_skip ?_)
  refine o_func ?_
  refine o_assign ?_
  first | refine g_endt ?_ | refine g_end ?_
  repeat (first | refine g_endt ?_ | refine g_end ?_ | refine g_then ?_ | refine g_in_normal ?_ | refine g_then_ret ?_ | refine g_in_ret ?_ | refine g_then_exit ?_ | refine g_in_exit rfl ?_ | refine g_in_exit_ne (by decide) ?_ | refine g_seq ?_ | refine g_region ?_ | refine g_block ?_ | refine g_ret ?_ | refine g_return_n ?_ | refine g_exit ?_ | refine g_skip ?_)
  exact ret1 rfl (resT rfl) ⟨b, rfl, rfl⟩
def CntA (m : Nat) (pre : List SymD) : SProp := ex fun ys => sl [pu (CntI pre ys), MapASI m ys]
section
variable {w0 : World} {A : SProp} {L M : List SProp} {Φ : World → Prop}
theorem openC (m : Nat) (pre : List SymD) [tk : Take1 L (CntA m pre) M] (h : ∀ ys, CntI pre ys → G w0 A (MapASI m ys :: M) Φ) : G w0 A L Φ :=
  G.perm tk.perm (G.ex fun ys => G.open_sl (G.pu fun h' => h ys h'))
theorem shutC (m : Nat) (pre : List SymD) {ys : List PgSI} (hc : CntI pre ys) [tk : Take1 L (MapASI m ys) M] (h : G w0 A (CntA m pre :: M) Φ) : G w0 A L Φ :=
  G.perm tk.perm (G.pu_in hc (G.ent (L := [pu (CntI pre ys), MapASI m ys] ++ M) (L' := CntA m pre :: M) ((sl_append_to _ M).trans (Ent.star (show Ent _ (CntA m pre) from fun _ _ x => ⟨ys, x⟩) (Ent.refl _))) h))
end
theorem Count_spec (gf : FuncId) (lb : List Value) (xs : List SymD) (hl : xs.length ≤ 100000) (Ks : List SProp) [En Try.prog gf] (hnil : ∀ w, (eqGuard .eql 74 (.tmp 8) (.const .nilFunc) (.func (.func gf) #[] lb.toArray) .nilFunc).run Try.prog w = .ok () w)
    (hnil2 : ∀ w, (binOp .eql 74 (.func (.func gf) #[] lb.toArray) .nilFunc).run Try.prog w = .ok (.bool false) w) (hit : ∀ K, Iter Try.prog gf lb encS1 xs (K ++ Ks)) :
    Ctr Try.prog 36 [.func (.func gf) #[] lb.toArray] Ks (fun v M => ∃ m ys, v = .pointer (some ⟨m, 0, none⟩) ∧ M = [MapASI m ys] ∧ CntI xs ys) := by
  refine spec_of Try.func36 rfl Try.ntmps36 rfl fun w0 F => ?_
  repeat (first | refine g_endt ?_ | refine g_end ?_ | refine g_then ?_ | refine g_in_normal ?_ | refine g_then_ret ?_ | refine g_in_ret ?_ | refine g_then_exit ?_ | refine g_in_exit rfl ?_ | refine g_in_exit_ne (by decide) ?_ | refine g_seq ?_ | refine g_region ?_ | refine g_block ?_ | refine g_ret ?_ | refine g_return_n ?_ | refine g_exit ?_ | refine g_skip ?_)
  refine o_assign ?_
  first | refine g_endt ?_ | refine g_end ?_
  repeat (first | refine g_endt ?_ | refine g_end ?_ | refine g_then ?_ | refine g_in_normal ?_ | refine g_then_ret ?_ | refine g_in_ret ?_ | refine g_then_exit ?_ | refine g_in_exit rfl ?_ | refine g_in_exit_ne (by decide) ?_ | refine g_seq ?_ | refine g_region ?_ | refine g_block ?_ | refine g_ret ?_ | refine g_return_n ?_ | refine g_exit ?_ | refine g_skip ?_)
  refine o_call NewMSI_spec rfl rfl ?_
  rintro _ _ ⟨m, rfl, rfl⟩
  refine o_alloc fun q => ?_
  refine o_store (v := .pointer (some ⟨m, 0, none⟩)) rfl rfl rfl rfl rfl ?_
  refine g_endt ?_
  refine G.norm q #[.pointer (some ⟨m, 0, none⟩)] rfl ?_
  repeat (first | refine g_endt ?_ | refine g_end ?_ | refine g_then ?_ | refine g_in_normal ?_ | refine g_then_ret ?_ | refine g_in_ret ?_ | refine g_then_exit ?_ | refine g_in_exit rfl ?_ | refine g_in_exit_ne (by decide) ?_ | refine g_seq ?_ | refine g_region ?_ | refine g_block ?_ | refine g_ret ?_ | refine g_return_n ?_ | refine g_exit ?_ | refine g_skip ?_)
  refine o_move ?_
  refine o_fnil rfl hnil hnil2 ?_
  refine g_endt ?_
  first | refine g_seq (g_cond_f rfl (rfl) ?_) | refine g_cond_f rfl (rfl) ?_
  repeat (first | refine g_endt ?_ | refine g_end ?_ | refine g_then ?_ | refine g_in_normal ?_ | refine g_then_ret ?_ | refine g_in_ret ?_ | refine g_then_exit ?_ | refine g_in_exit rfl ?_ | refine g_in_exit_ne (by decide) ?_ | refine g_seq ?_ | refine g_region ?_ | refine g_block ?_ | refine g_ret ?_ | refine g_return_n ?_ | refine g_exit ?_ | refine g_skip ?_)
  refine o_move ?_
  refine g_endt ?_
  repeat (first | refine g_endt ?_ | refine g_end ?_ | refine g_then ?_ | refine g_in_normal ?_ | refine g_then_ret ?_ | refine g_in_ret ?_ | refine g_then_exit ?_ | refine g_in_exit rfl ?_ | refine g_in_exit_ne (by decide) ?_ | refine g_seq ?_ | refine g_region ?_ | refine g_block ?_ | refine g_ret ?_ | refine g_return_n ?_ | refine g_exit ?_ | refine g_skip ?_)
  refine shutC m [] CntI.nil ?_
  refine g_range (ps := [12]) (enc := encS1) (xs := xs) rfl (fun pre => [CntA m pre, cellsB q #[.pointer (some ⟨m, 0, none⟩)] 36] ++ Ks) (fun _ _ => [pu False])
    (fun K => hit [K, CntA m [], cellsB q #[.pointer (some ⟨m, 0, none⟩)] 36]) (fun _ => rfl) ?_ ?_ ?_
  · intro w0 F l r pre x hp
    have hlen : pre.length < xs.length := by
      obtain ⟨t, ht⟩ := hp
      have := congrArg List.length ht
      simp at this
      omega
    repeat (first | refine g_endt ?_ | refine g_end ?_ | refine g_then ?_ | refine g_in_normal ?_ | refine g_then_ret ?_ | refine g_in_ret ?_ | refine g_then_exit ?_ | refine g_in_exit rfl ?_ | refine g_in_exit_ne (by decide) ?_ | refine g_seq ?_ | refine g_region ?_ | refine g_block ?_ | refine g_ret ?_ | refine g_return_n ?_ | refine g_exit ?_ | refine g_skip ?_)
    refine o_alloc fun c => ?_
    refine o_store (v := x.val) rfl rfl rfl rfl rfl ?_
    refine g_endt ?_
    refine G.norm c x.val.cells rfl ?_
    repeat (first | refine g_endt ?_ | refine g_end ?_ | refine g_then ?_ | refine g_in_normal ?_ | refine g_then_ret ?_ | refine g_in_ret ?_ | refine g_then_exit ?_ | refine g_in_exit rfl ?_ | refine g_in_exit_ne (by decide) ?_ | refine g_seq ?_ | refine g_region ?_ | refine g_block ?_ | refine g_ret ?_ | refine g_return_n ?_ | refine g_exit ?_ | refine g_skip ?_)
    refine g_begin ?_
    repeat (first | refine g_endt ?_ | refine g_end ?_ | refine g_then ?_ | refine g_in_normal ?_ | refine g_then_ret ?_ | refine g_in_ret ?_ | refine g_then_exit ?_ | refine g_in_exit rfl ?_ | refine g_in_exit_ne (by decide) ?_ | refine g_seq ?_ | refine g_region ?_ | refine g_block ?_ | refine g_ret ?_ | refine g_return_n ?_ | refine g_exit ?_ | refine g_skip ?_)
    refine openC m pre fun ys hC => ?_
    refine o_load1 (v := .pointer (some ⟨m, 0, none⟩)) rfl rfl ?_
    refine o_loadN (v := x.val) rfl rfl rfl ?_
    have hyl : ys.length < 999999999 := by have := hC.len; omega
    refine o_call (GetMapSI_spec m ys x hC.srt (by omega)) rfl rfl ?_
    rintro _ _ ⟨rfl, rfl⟩
    have e : ((getM PgSI.cmp ys ⟨x, PgSI.zero.v⟩).getD PgSI.zero).v = (cnt pre x : Int) := by
      rw [hC.get]
      by_cases h0 : cnt pre x = 0
      · rw [if_pos h0, h0]; rfl
      · rw [if_neg h0]; rfl
    rw [e]
    have hcl : cnt pre x ≤ pre.length := List.countP_le_length
    refine o_move ?_
    refine o_extract rfl rfl ?_
    refine o_extract rfl rfl ?_
    refine o_assign ?_
    refine o_assign ?_
    refine g_endt ?_
    repeat (first | refine g_endt ?_ | refine g_end ?_ | refine g_then ?_ | refine g_in_normal ?_ | refine g_then_ret ?_ | refine g_in_ret ?_ | refine g_then_exit ?_ | refine g_in_exit rfl ?_ | refine g_in_exit_ne (by decide) ?_ | refine g_seq ?_ | refine g_region ?_ | refine g_block ?_ | refine g_ret ?_ | refine g_return_n ?_ | refine g_exit ?_ | refine g_skip ?_)
    refine o_load1 (v := .pointer (some ⟨m, 0, none⟩)) rfl rfl ?_
    refine o_loadN (v := x.val) rfl rfl rfl ?_
    refine o_move ?_
    refine o_add (c := (cnt pre x : Int) + 1) rfl rfl rfl (by omega) (by omega) ?_
    refine o_call (PutMSI_spec m ys x ((cnt pre x : Int) + 1) hC.srt hyl) rfl rfl ?_
    rintro _ M1 ⟨i, there, rfl, rfl, hk⟩
    refine g_end ?_
    refine shutC m (pre ++ [x]) (ys := putLSI ys x ((cnt pre x : Int) + 1) i there) (hC.step x hk) ?_
    repeat (first | refine g_endt ?_ | refine g_end ?_ | refine g_then ?_ | refine g_in_normal ?_ | refine g_then_ret ?_ | refine g_in_ret ?_ | refine g_then_exit ?_ | refine g_in_exit rfl ?_ | refine g_in_exit_ne (by decide) ?_ | refine g_seq ?_ | refine g_region ?_ | refine g_block ?_ | refine g_ret ?_ | refine g_return_n ?_ | refine g_exit ?_ | refine g_skip ?_)
    exact g_next
  · intro D
    repeat (first | refine g_endt ?_ | refine g_end ?_ | refine g_then ?_ | refine g_in_normal ?_ | refine g_then_ret ?_ | refine g_in_ret ?_ | refine g_then_exit ?_ | refine g_in_exit rfl ?_ | refine g_in_exit_ne (by decide) ?_ | refine g_seq ?_ | refine g_region ?_ | refine g_block ?_ | refine g_ret ?_ | refine g_return_n ?_ | refine g_exit ?_ | refine g_skip ?_)
    refine openC m xs fun ys hC => ?_
    refine o_load1 (v := .pointer (some ⟨m, 0, none⟩)) rfl rfl ?_
    refine o_assign ?_
    refine g_endt ?_
    repeat (first | refine g_endt ?_ | refine g_end ?_ | refine g_then ?_ | refine g_in_normal ?_ | refine g_then_ret ?_ | refine g_in_ret ?_ | refine g_then_exit ?_ | refine g_in_exit rfl ?_ | refine g_in_exit_ne (by decide) ?_ | refine g_seq ?_ | refine g_region ?_ | refine g_block ?_ | refine g_ret ?_ | refine g_return_n ?_ | refine g_exit ?_ | refine g_skip ?_)
    exact ret1 rfl (resT rfl) ⟨m, ys, rfl, rfl, hC⟩
  · intro D c pre hp
    exact G.pu fun h => h.elim
end Go.Proofs.Ytlognaddmbolgaa
/- An ordered map's functions, for one type of keys and one of values: told in order. -/
namespace Go.Proofs.Ytlognaddmbolgaa
open Go Go.Sl
attribute [local irreducible] Code.wpIn roundPost bodyPostM runL Ret Meets Begin

theorem AllM1SI_iter (m b : Nat) (ys : List PgSI) (hl : ys.length < 1000000000) (J0 : List SProp) {M : List SProp} [tk : Take1 J0 (MapASI m ys) M] [HasP J0 (pblk b (.cells #[.pointer (some ⟨m, 0, none⟩)] 36 (0, 0)))] :
    Iter Try.prog 53 [.pointer (some ⟨b, 0, none⟩)] PgSI.enc2 ys J0 := by
  intro l J Jx hJ hy
  subst hJ
  refine spec_of Try.func53 rfl Try.ntmps53 rfl fun w0 F => ?_
  refine G.dup (pblk b (.cells #[.pointer (some ⟨m, 0, none⟩)] 36 (0, 0))) ?_
  repeat (first | refine g_endt ?_ | refine g_end ?_ | refine g_then ?_ | refine g_in_normal ?_ | refine g_then_ret ?_ | refine g_in_ret ?_ | refine g_then_exit ?_ | refine g_in_exit rfl ?_ | refine g_in_exit_ne (by decide) ?_ | refine g_seq ?_ | refine g_region ?_ | refine g_block ?_ | refine g_ret ?_ | refine g_return_n ?_ | refine g_exit ?_ | refine g_skip ?_)
  refine o_boxc #[.func (.yield l) #[] #[]] rfl rfl fun q => ?_
  refine g_endt ?_
  repeat (first | refine g_endt ?_ | refine g_end ?_ | refine g_then ?_ | refine g_in_normal ?_ | refine g_then_ret ?_ | refine g_in_ret ?_ | refine g_then_exit ?_ | refine g_in_exit rfl ?_ | refine g_in_exit_ne (by decide) ?_ | refine g_seq ?_ | refine g_region ?_ | refine g_block ?_ | refine g_ret ?_ | refine g_return_n ?_ | refine g_exit ?_ | refine g_skip ?_)
  refine o_load1 (v := .pointer (some ⟨m, 0, none⟩)) rfl rfl ?_
  refine o_peql rfl ?_
  refine g_endt ?_
  first | refine g_seq (g_cond_f rfl (rfl) ?_) | refine g_cond_f rfl (rfl) ?_
  repeat (first | refine g_endt ?_ | refine g_end ?_ | refine g_then ?_ | refine g_in_normal ?_ | refine g_then_ret ?_ | refine g_in_ret ?_ | refine g_then_exit ?_ | refine g_in_exit rfl ?_ | refine g_in_exit_ne (by decide) ?_ | refine g_seq ?_ | refine g_region ?_ | refine g_block ?_ | refine g_ret ?_ | refine g_return_n ?_ | refine g_exit ?_ | refine g_skip ?_)
  refine openMSI m ys fun p => ?_
  refine o_load1 (v := .pointer (some ⟨m, 0, none⟩)) rfl rfl ?_
  refine o_nil rfl ?_
  refine o_field rfl ?_
  refine o_load1 (v := .pointer (some ⟨p, 0, none⟩)) rfl rfl ?_
  refine o_call (AllSI_spec p) rfl rfl ?_
  rintro _ _ ⟨b2, rfl, rfl⟩
  refine g_endt ?_
  repeat (first | refine g_endt ?_ | refine g_end ?_ | refine g_then ?_ | refine g_in_normal ?_ | refine g_then_ret ?_ | refine g_in_ret ?_ | refine g_then_exit ?_ | refine g_in_exit rfl ?_ | refine g_in_exit_ne (by decide) ?_ | refine g_seq ?_ | refine g_region ?_ | refine g_block ?_ | refine g_ret ?_ | refine g_return_n ?_ | refine g_exit ?_ | refine g_skip ?_)
  have hO : Ent (sl (SetASI p ys :: cellsB m #[.pointer (some ⟨p, 0, none⟩)] 107 :: M)) (sl (J [])) := MapASI_of m p ys
  refine g_range (ps := [11]) (lb := [.pointer (some ⟨b2, 0, none⟩)]) (enc := PgSI.enc') (xs := ys) rfl
    (fun pre => cellsB q #[.func (.yield l) #[] #[]] 43 :: pblk b2 (.cells #[.pointer (some ⟨p, 0, none⟩)] 105 (0, 0)) :: Jin (SetASI p ys :: cellsB m #[.pointer (some ⟨p, 0, none⟩)] 107 :: M) J pre)
    (fun c pre => pu (c = .ret) :: Jx pre)
    (fun K => All1SI_iter p b2 ys hl (K :: cellsB q #[.func (.yield l) #[] #[]] 43 :: pblk b2 (.cells #[.pointer (some ⟨p, 0, none⟩)] 105 (0, 0)) :: SetASI p ys :: cellsB m #[.pointer (some ⟨p, 0, none⟩)] 107 :: M))
    (fun _ => rfl) (tk := (inferInstance : Take _ (cellsB q #[.func (.yield l) #[] #[]] 43 :: pblk b2 (.cells #[.pointer (some ⟨p, 0, none⟩)] 105 (0, 0)) :: SetASI p ys :: cellsB m #[.pointer (some ⟨p, 0, none⟩)] 107 :: M) _)) ?_ ?_ ?_
  · intro w0 F l' r pre x hp
    refine G.ent (L' := cellsB q #[.func (.yield l) #[] #[]] 43 :: pblk b2 (.cells #[.pointer (some ⟨p, 0, none⟩)] 105 (0, 0)) :: J pre) ((Ent.refl _).star ((Ent.refl _).star (Jin_ent hO pre))) ?_
    repeat (first | refine g_endt ?_ | refine g_end ?_ | refine g_then ?_ | refine g_in_normal ?_ | refine g_then_ret ?_ | refine g_in_ret ?_ | refine g_then_exit ?_ | refine g_in_exit rfl ?_ | refine g_in_exit_ne (by decide) ?_ | refine g_seq ?_ | refine g_region ?_ | refine g_block ?_ | refine g_ret ?_ | refine g_return_n ?_ | refine g_exit ?_ | refine g_skip ?_)
    refine o_alloc fun c => ?_
    refine o_store (v := x.val) rfl rfl rfl rfl rfl ?_
    refine g_endt ?_
    refine G.norm c x.val.cells rfl ?_
    repeat (first | refine g_endt ?_ | refine g_end ?_ | refine g_then ?_ | refine g_in_normal ?_ | refine g_then_ret ?_ | refine g_in_ret ?_ | refine g_then_exit ?_ | refine g_in_exit rfl ?_ | refine g_in_exit_ne (by decide) ?_ | refine g_seq ?_ | refine g_region ?_ | refine g_block ?_ | refine g_ret ?_ | refine g_return_n ?_ | refine g_exit ?_ | refine g_skip ?_)
    refine g_begin ?_
    repeat (first | refine g_endt ?_ | refine g_end ?_ | refine g_then ?_ | refine g_in_normal ?_ | refine g_then_ret ?_ | refine g_in_ret ?_ | refine g_then_exit ?_ | refine g_in_exit rfl ?_ | refine g_in_exit_ne (by decide) ?_ | refine g_seq ?_ | refine g_region ?_ | refine g_block ?_ | refine g_ret ?_ | refine g_return_n ?_ | refine g_exit ?_ | refine g_skip ?_)
    refine o_load1 (v := .func (.yield l) #[] #[]) rfl rfl ?_
    refine o_field rfl ?_
    refine o_loadN (v := x.k.val) rfl rfl rfl ?_
    refine o_field rfl ?_
    refine o_load1 (v := PgSI.vval x.v) rfl rfl ?_
    refine o_yield (hy pre x hp) rfl rfl ?_ ?_
    · refine o_not rfl ?_
      refine g_endt ?_
      first | refine g_seq (g_cond_f rfl (rfl) ?_) | refine g_cond_f rfl (rfl) ?_
      repeat (first | refine g_endt ?_ | refine g_end ?_ | refine g_then ?_ | refine g_in_normal ?_ | refine g_then_ret ?_ | refine g_in_ret ?_ | refine g_then_exit ?_ | refine g_in_exit rfl ?_ | refine g_in_exit_ne (by decide) ?_ | refine g_seq ?_ | refine g_region ?_ | refine g_block ?_ | refine g_ret ?_ | refine g_return_n ?_ | refine g_exit ?_ | refine g_skip ?_)
      exact g_next (tk := by rw [Jin_snoc]; infer_instance)
    · refine o_not rfl ?_
      refine g_endt ?_
      first | refine g_seq (g_cond_t rfl (rfl) ?_) | refine g_cond_t rfl (rfl) ?_
      repeat (first | refine g_endt ?_ | refine g_end ?_ | refine g_then ?_ | refine g_in_normal ?_ | refine g_then_ret ?_ | refine g_in_ret ?_ | refine g_then_exit ?_ | refine g_in_exit rfl ?_ | refine g_in_exit_ne (by decide) ?_ | refine g_seq ?_ | refine g_region ?_ | refine g_block ?_ | refine g_ret ?_ | refine g_return_n ?_ | refine g_exit ?_ | refine g_skip ?_)
      refine G.pu_in (q := Code.ret = Code.ret) rfl ?_
      exact g_leave_ret
  · intro D
    refine G.ent (L' := cellsB q #[.func (.yield l) #[] #[]] 43 :: pblk b2 (.cells #[.pointer (some ⟨p, 0, none⟩)] 105 (0, 0)) :: J ys) ((Ent.refl _).star ((Ent.refl _).star (Jin_ent hO ys))) ?_
    repeat (first | refine g_endt ?_ | refine g_end ?_ | refine g_then ?_ | refine g_in_normal ?_ | refine g_then_ret ?_ | refine g_in_ret ?_ | refine g_then_exit ?_ | refine g_in_exit rfl ?_ | refine g_in_exit_ne (by decide) ?_ | refine g_seq ?_ | refine g_region ?_ | refine g_block ?_ | refine g_ret ?_ | refine g_return_n ?_ | refine g_exit ?_ | refine g_skip ?_)
    exact ret0 (K := J ys) rfl (.inl rfl)
  · intro D c pre hp
    refine G.pu fun h => ?_
    subst h
    repeat (first | refine g_endt ?_ | refine g_end ?_ | refine g_then ?_ | refine g_in_normal ?_ | refine g_then_ret ?_ | refine g_in_ret ?_ | refine g_then_exit ?_ | refine g_in_exit rfl ?_ | refine g_in_exit_ne (by decide) ?_ | refine g_seq ?_ | refine g_region ?_ | refine g_block ?_ | refine g_ret ?_ | refine g_return_n ?_ | refine g_exit ?_ | refine g_skip ?_)
    exact ret0 (K := Jx pre) rfl (.inr ⟨pre, hp, rfl⟩)
theorem AllMSI_spec (m : Nat) : Ctr Try.prog 16 [.pointer (some ⟨m, 0, none⟩)] []
    (fun v M => ∃ b, v = .func (.func 53) #[] #[.pointer (some ⟨b, 0, none⟩)] ∧ M = [pblk b (.cells #[.pointer (some ⟨m, 0, none⟩)] 36 (0, 0))]) := by
  refine spec_of Try.func16 rfl Try.ntmps16 rfl fun w0 F => ?_
  repeat (first | refine g_endt ?_ | refine g_end ?_ | refine g_then ?_ | refine g_in_normal ?_ | refine g_then_ret ?_ | refine g_in_ret ?_ | refine g_then_exit ?_ | refine g_in_exit rfl ?_ | refine g_in_exit_ne (by decide) ?_ | refine g_seq ?_ | refine g_region ?_ | refine g_block ?_ | refine g_ret ?_ | refine g_return_n ?_ | refine g_exit ?_ | refine g_skip ?_)
  refine o_boxc #[.pointer (some ⟨m, 0, none⟩)] rfl rfl fun b => ?_
  refine G.freeze ?_
  refine o_assign ?_
  first | refine g_endt ?_ | refine g_end ?_
  repeat (first | refine g_endt ?_ | refine g_end ?_ | refine g_then ?_ | refine g_in_normal ?_ | refine g_then_ret ?_ | refine g_in_ret ?_ | refine g_then_exit ?_ | refine g_in_exit rfl ?_ | refine g_in_exit_ne (by decide) ?_ | refine g_seq ?_ | refine g_region ?_ | refine g_block ?_ | refine g_ret ?_ | refine g_return_n ?_ | refine g_exit ?_ | refine g_skip ?_)
  refine o_func ?_
  refine o_assign ?_
  first | refine g_endt ?_ | refine g_end ?_
  repeat (first | refine g_endt ?_ | refine g_end ?_ | refine g_then ?_ | refine g_in_normal ?_ | refine g_then_ret ?_ | refine g_in_ret ?_ | refine g_then_exit ?_ | refine g_in_exit rfl ?_ | refine g_in_exit_ne (by decide) ?_ | refine g_seq ?_ | refine g_region ?_ | refine g_block ?_ | refine g_ret ?_ | refine g_return_n ?_ | refine g_exit ?_ | refine g_skip ?_)
  exact ret1 rfl (resT rfl) ⟨b, rfl, rfl⟩
end Go.Proofs.Ytlognaddmbolgaa
/- An ordered map's keys and values as lists. -/
namespace Go.Proofs.Ytlognaddmbolgaa
open Go Go.Sl
attribute [local irreducible] Code.wpIn roundPost bodyPostM runL Ret Meets Begin

theorem FromSI0_spec (m : Nat) (k : SymD) : Ctr Try.prog 68 [.pointer (some ⟨m, 0, none⟩), k.val] [] (fun _ M => M = []) := by
  refine spec_of Try.func68 rfl Try.ntmps68 rfl fun w0 F => ?_
  repeat (first | refine g_endt ?_ | refine g_end ?_ | refine g_then ?_ | refine g_in_normal ?_ | refine g_then_ret ?_ | refine g_in_ret ?_ | refine g_then_exit ?_ | refine g_in_exit rfl ?_ | refine g_in_exit_ne (by decide) ?_ | refine g_seq ?_ | refine g_region ?_ | refine g_block ?_ | refine g_ret ?_ | refine g_return_n ?_ | refine g_exit ?_ | refine g_skip ?_)
  refine o_boxc #[.pointer (some ⟨m, 0, none⟩)] rfl rfl fun b => ?_
  refine o_boxc k.val.cells rfl rfl fun c => ?_
  refine o_assign ?_
  refine g_endt ?_
  repeat (first | refine g_endt ?_ | refine g_end ?_ | refine g_then ?_ | refine g_in_normal ?_ | refine g_then_ret ?_ | refine g_in_ret ?_ | refine g_then_exit ?_ | refine g_in_exit rfl ?_ | refine g_in_exit_ne (by decide) ?_ | refine g_seq ?_ | refine g_region ?_ | refine g_block ?_ | refine g_ret ?_ | refine g_return_n ?_ | refine g_exit ?_ | refine g_skip ?_)
  refine o_func ?_
  refine o_assign ?_
  first | refine g_endt ?_ | refine g_end ?_
  repeat (first | refine g_endt ?_ | refine g_end ?_ | refine g_then ?_ | refine g_in_normal ?_ | refine g_then_ret ?_ | refine g_in_ret ?_ | refine g_then_exit ?_ | refine g_in_exit rfl ?_ | refine g_in_exit_ne (by decide) ?_ | refine g_seq ?_ | refine g_region ?_ | refine g_block ?_ | refine g_ret ?_ | refine g_return_n ?_ | refine g_exit ?_ | refine g_skip ?_)
  exact ret1 (K := []) rfl (resT rfl) rfl
/-- Two lists that grow, in two variables. -/
def PairsA (p q : Nat) (pre : List PgSI) : SProp := ex fun r : Option Addr × Nat × Option Addr × Nat =>
  sl [cellsB p #[.slice r.1 pre.length r.2.1] 35, osl 27 encS 3 r.1 r.2.1 (pre.map PgSI.k), cellsB q #[.slice r.2.2.1 pre.length r.2.2.2] 28, osl 3 encI 1 r.2.2.1 r.2.2.2 (pre.map PgSI.v)]
section
variable {w0 : World} {A : SProp} {L M : List SProp} {Φ : World → Prop}
theorem openP (p q : Nat) (pre : List PgSI) [tk : Take1 L (PairsA p q pre) M]
    (h : ∀ S c T d, G w0 A ([cellsB p #[.slice S pre.length c] 35, osl 27 encS 3 S c (pre.map PgSI.k), cellsB q #[.slice T pre.length d] 28, osl 3 encI 1 T d (pre.map PgSI.v)] ++ M) Φ) : G w0 A L Φ :=
  G.perm tk.perm (G.ex fun ⟨S, c, T, d⟩ => G.open_sl (h S c T d))
theorem shutP (p q : Nat) (pre : List PgSI) (S T : Option Addr) (c d : Nat) {n : Nat} (hn : pre.length = n)
    [tk : Take L [cellsB p #[.slice S n c] 35, osl 27 encS 3 S c (pre.map PgSI.k), cellsB q #[.slice T n d] 28, osl 3 encI 1 T d (pre.map PgSI.v)] M] (h : G w0 A (PairsA p q pre :: M) Φ) : G w0 A L Φ := by
  subst hn
  exact G.perm tk.perm (G.ent ((sl_append_to _ M).trans (Ent.star (show Ent _ (PairsA p q pre) from fun _ _ x => ⟨(S, c, T, d), x⟩) (Ent.refl _))) h)
end
theorem pairsAll_spec (m n : Nat) (ys : List PgSI) (k : SymD) (hn : ys.length ≤ n) (hl : ys.length ≤ 100000) : Ctr Try.prog 32 [.pointer (some ⟨m, 0, none⟩), k.val, .bool true, .int .i64 (n : Int)] [MapASI m ys]
    (fun v M => ∃ S c T d, v = .tuple #[.slice S ys.length c, .slice T ys.length d] ∧ M = [MapASI m ys, osl 27 encS 3 S c (ys.map PgSI.k), osl 3 encI 1 T d (ys.map PgSI.v)]) := by
  refine spec_of Try.func32 rfl Try.ntmps32 rfl fun w0 F => ?_
  repeat (first | refine g_endt ?_ | refine g_end ?_ | refine g_then ?_ | refine g_in_normal ?_ | refine g_then_ret ?_ | refine g_in_ret ?_ | refine g_then_exit ?_ | refine g_in_exit rfl ?_ | refine g_in_exit_ne (by decide) ?_ | refine g_seq ?_ | refine g_region ?_ | refine g_block ?_ | refine g_ret ?_ | refine g_return_n ?_ | refine g_exit ?_ | refine g_skip ?_)
  refine o_boxc k.val.cells rfl rfl fun b => ?_
  refine o_boxc #[.int .i64 (n : Int)] rfl rfl fun bn => ?_
  refine o_assign ?_
  refine o_assign ?_
  refine g_endt ?_
  repeat (first | refine g_endt ?_ | refine g_end ?_ | refine g_then ?_ | refine g_in_normal ?_ | refine g_then_ret ?_ | refine g_in_ret ?_ | refine g_then_exit ?_ | refine g_in_exit rfl ?_ | refine g_in_exit_ne (by decide) ?_ | refine g_seq ?_ | refine g_region ?_ | refine g_block ?_ | refine g_ret ?_ | refine g_return_n ?_ | refine g_exit ?_ | refine g_skip ?_)
  refine o_alloc fun p => ?_
  refine g_endt ?_
  repeat (first | refine g_endt ?_ | refine g_end ?_ | refine g_then ?_ | refine g_in_normal ?_ | refine g_then_ret ?_ | refine g_in_ret ?_ | refine g_then_exit ?_ | refine g_in_exit rfl ?_ | refine g_in_exit_ne (by decide) ?_ | refine g_seq ?_ | refine g_region ?_ | refine g_block ?_ | refine g_ret ?_ | refine g_return_n ?_ | refine g_exit ?_ | refine g_skip ?_)
  refine o_alloc fun q => ?_
  refine g_endt ?_
  repeat (first | refine g_endt ?_ | refine g_end ?_ | refine g_then ?_ | refine g_in_normal ?_ | refine g_then_ret ?_ | refine g_in_ret ?_ | refine g_then_exit ?_ | refine g_in_exit rfl ?_ | refine g_in_exit_ne (by decide) ?_ | refine g_seq ?_ | refine g_region ?_ | refine g_block ?_ | refine g_ret ?_ | refine g_return_n ?_ | refine g_exit ?_ | refine g_skip ?_)
  refine o_move ?_
  refine o_loadN (v := k.val) rfl rfl rfl ?_
  refine o_call (FromSI0_spec m k) rfl rfl ?_
  rintro v0 _ rfl
  refine o_assign ?_
  refine g_endt ?_
  repeat (first | refine g_endt ?_ | refine g_end ?_ | refine g_then ?_ | refine g_in_normal ?_ | refine g_then_ret ?_ | refine g_in_ret ?_ | refine g_then_exit ?_ | refine g_in_exit rfl ?_ | refine g_in_exit_ne (by decide) ?_ | refine g_seq ?_ | refine g_region ?_ | refine g_block ?_ | refine g_ret ?_ | refine g_return_n ?_ | refine g_exit ?_ | refine g_skip ?_)
  refine o_move ?_
  refine g_endt ?_
  first | refine g_seq (g_cond_t rfl (rfl) ?_) | refine g_cond_t rfl (rfl) ?_
  repeat (first | refine g_endt ?_ | refine g_end ?_ | refine g_then ?_ | refine g_in_normal ?_ | refine g_then_ret ?_ | refine g_in_ret ?_ | refine g_then_exit ?_ | refine g_in_exit rfl ?_ | refine g_in_exit_ne (by decide) ?_ | refine g_seq ?_ | refine g_region ?_ | refine g_block ?_ | refine g_ret ?_ | refine g_return_n ?_ | refine g_exit ?_ | refine g_skip ?_)
  refine o_move ?_
  refine o_call (AllMSI_spec m) rfl rfl ?_
  rintro _ _ ⟨b2, rfl, rfl⟩
  refine o_assign ?_
  refine g_end ?_
  repeat (first | refine g_endt ?_ | refine g_end ?_ | refine g_then ?_ | refine g_in_normal ?_ | refine g_then_ret ?_ | refine g_in_ret ?_ | refine g_then_exit ?_ | refine g_in_exit rfl ?_ | refine g_in_exit_ne (by decide) ?_ | refine g_seq ?_ | refine g_region ?_ | refine g_block ?_ | refine g_ret ?_ | refine g_return_n ?_ | refine g_exit ?_ | refine g_skip ?_)
  refine o_move ?_
  refine o_fnil rfl (fun w => by kernel_rfl) (fun w => by kernel_rfl) ?_
  refine g_endt ?_
  first | refine g_seq (g_cond_f rfl (rfl) ?_) | refine g_cond_f rfl (rfl) ?_
  repeat (first | refine g_endt ?_ | refine g_end ?_ | refine g_then ?_ | refine g_in_normal ?_ | refine g_then_ret ?_ | refine g_in_ret ?_ | refine g_then_exit ?_ | refine g_in_exit rfl ?_ | refine g_in_exit_ne (by decide) ?_ | refine g_seq ?_ | refine g_region ?_ | refine g_block ?_ | refine g_ret ?_ | refine g_return_n ?_ | refine g_exit ?_ | refine g_skip ?_)
  refine o_move ?_
  refine g_endt ?_
  refine G.nil_slice 3 encI 1 ?_
  refine G.nil_slice 27 encS 3 ?_
  refine G.norm p #[.slice none 0 0] rfl ?_
  refine G.norm q #[.slice none 0 0] rfl ?_
  refine shutP p q [] none none 0 0 (n := 0) rfl (tk := (inferInstance : Take _ [cellsB p #[.slice none 0 0] 35, osl 27 encS 3 none 0 [], cellsB q #[.slice none 0 0] 28, osl 3 encI 1 none 0 []] _)) ?_
  repeat (first | refine g_endt ?_ | refine g_end ?_ | refine g_then ?_ | refine g_in_normal ?_ | refine g_then_ret ?_ | refine g_in_ret ?_ | refine g_then_exit ?_ | refine g_in_exit rfl ?_ | refine g_in_exit_ne (by decide) ?_ | refine g_seq ?_ | refine g_region ?_ | refine g_block ?_ | refine g_ret ?_ | refine g_return_n ?_ | refine g_exit ?_ | refine g_skip ?_)
  refine g_range (ps := [24, 25]) (lb := [.pointer (some ⟨b2, 0, none⟩)]) (enc := PgSI.enc2) (xs := ys) rfl
    (fun pre => [PairsA p q pre, cellsB bn #[.int .i64 (n : Int)] 3, MapASI m ys, pblk b2 (.cells #[.pointer (some ⟨m, 0, none⟩)] 36 (0, 0))]) (fun _ _ => [pu False])
    (fun K => AllM1SI_iter m b2 ys (by omega) _) (fun _ => rfl) ?_ ?_ ?_
  · intro w0 F l r pre x hp
    have hlen : pre.length < ys.length := by
      obtain ⟨t, ht⟩ := hp
      have := congrArg List.length ht
      simp at this
      omega
    repeat (first | refine g_endt ?_ | refine g_end ?_ | refine g_then ?_ | refine g_in_normal ?_ | refine g_then_ret ?_ | refine g_in_ret ?_ | refine g_then_exit ?_ | refine g_in_exit rfl ?_ | refine g_in_exit_ne (by decide) ?_ | refine g_seq ?_ | refine g_region ?_ | refine g_block ?_ | refine g_ret ?_ | refine g_return_n ?_ | refine g_exit ?_ | refine g_skip ?_)
    refine o_alloc fun c => ?_
    refine o_store (v := x.k.val) rfl rfl rfl rfl rfl ?_
    refine g_endt ?_
    refine G.norm c x.k.val.cells rfl ?_
    repeat (first | refine g_endt ?_ | refine g_end ?_ | refine g_then ?_ | refine g_in_normal ?_ | refine g_then_ret ?_ | refine g_in_ret ?_ | refine g_then_exit ?_ | refine g_in_exit rfl ?_ | refine g_in_exit_ne (by decide) ?_ | refine g_seq ?_ | refine g_region ?_ | refine g_block ?_ | refine g_ret ?_ | refine g_return_n ?_ | refine g_exit ?_ | refine g_skip ?_)
    refine o_assign ?_
    refine g_endt ?_
    repeat (first | refine g_endt ?_ | refine g_end ?_ | refine g_then ?_ | refine g_in_normal ?_ | refine g_then_ret ?_ | refine g_in_ret ?_ | refine g_then_exit ?_ | refine g_in_exit rfl ?_ | refine g_in_exit_ne (by decide) ?_ | refine g_seq ?_ | refine g_region ?_ | refine g_block ?_ | refine g_ret ?_ | refine g_return_n ?_ | refine g_exit ?_ | refine g_skip ?_)
    refine g_begin ?_
    repeat (first | refine g_endt ?_ | refine g_end ?_ | refine g_then ?_ | refine g_in_normal ?_ | refine g_then_ret ?_ | refine g_in_ret ?_ | refine g_then_exit ?_ | refine g_in_exit rfl ?_ | refine g_in_exit_ne (by decide) ?_ | refine g_seq ?_ | refine g_region ?_ | refine g_block ?_ | refine g_ret ?_ | refine g_return_n ?_ | refine g_exit ?_ | refine g_skip ?_)
    refine openP p q pre fun S e T d => ?_
    refine o_load1 (v := .slice S pre.length e) rfl rfl ?_
    refine o_len rfl rfl ?_
    refine o_load1 (v := .int .i64 (n : Int)) rfl rfl ?_
    refine o_geq rfl rfl ?_
    refine g_endt ?_
    first | refine g_seq (g_cond_f rfl (by simp; omega) ?_) | refine g_cond_f rfl (by simp; omega) ?_
    repeat (first | refine g_endt ?_ | refine g_end ?_ | refine g_then ?_ | refine g_in_normal ?_ | refine g_then_ret ?_ | refine g_in_ret ?_ | refine g_then_exit ?_ | refine g_in_exit rfl ?_ | refine g_in_exit_ne (by decide) ?_ | refine g_seq ?_ | refine g_region ?_ | refine g_block ?_ | refine g_ret ?_ | refine g_return_n ?_ | refine g_exit ?_ | refine g_skip ?_)
    refine o_load1 (v := .slice S pre.length e) rfl rfl ?_
    refine o_loadN (v := x.k.val) rfl rfl rfl ?_
    refine o_slice_lit (e := 27) x.k.val.cells (fun w => by kernel_rfl) fun g => ?_
    refine G.lit_slice (enc := encS) (sz := 3) [x.k] (by simp [encS]) (by simp [maxLen]) ?_
    refine G.freeze_slice ?_
    refine o_append (xs := pre.map PgSI.k) (ys := [x.k]) (by simp only [List.length_map]; rfl) rfl rfl rfl rfl (fun _ => .inr trivial) (by simp [maxLen]; omega) (by simp; omega) fun S2 e2 => ?_
    refine o_store (v := .slice S2 (pre.length + 1) e2) rfl (by simp only [List.length_map]; rfl) rfl rfl rfl ?_
    refine g_endt ?_
    refine G.norm p #[.slice S2 (pre.length + 1) e2] rfl ?_
    repeat (first | refine g_endt ?_ | refine g_end ?_ | refine g_then ?_ | refine g_in_normal ?_ | refine g_then_ret ?_ | refine g_in_ret ?_ | refine g_then_exit ?_ | refine g_in_exit rfl ?_ | refine g_in_exit_ne (by decide) ?_ | refine g_seq ?_ | refine g_region ?_ | refine g_block ?_ | refine g_ret ?_ | refine g_return_n ?_ | refine g_exit ?_ | refine g_skip ?_)
    refine o_load1 (v := .slice T pre.length d) rfl rfl ?_
    refine o_move ?_
    refine o_slice_lit (e := 3) #[.int .i64 x.v] (fun w => by kernel_rfl) fun g2 => ?_
    refine G.lit_slice (enc := encI) (sz := 1) [x.v] rfl (by simp [maxLen]) ?_
    refine G.freeze_slice ?_
    refine o_append (xs := pre.map PgSI.v) (ys := [x.v]) (by simp only [List.length_map]; rfl) rfl rfl rfl rfl (fun _ => .inr trivial) (by simp [maxLen]; omega) (by simp; omega) fun T2 d2 => ?_
    refine o_store (v := .slice T2 (pre.length + 1) d2) rfl (by simp only [List.length_map]; rfl) rfl rfl rfl ?_
    refine g_end ?_
    refine G.norm q #[.slice T2 (pre.length + 1) d2] rfl ?_
    have e1 : pre.map PgSI.k ++ [x.k] = (pre ++ [x]).map PgSI.k := by simp
    have e2' : pre.map PgSI.v ++ [x.v] = (pre ++ [x]).map PgSI.v := by simp
    rw [e1, e2']
    refine shutP p q (pre ++ [x]) S2 T2 e2 d2 (n := pre.length + 1) (by simp) ?_
    repeat (first | refine g_endt ?_ | refine g_end ?_ | refine g_then ?_ | refine g_in_normal ?_ | refine g_then_ret ?_ | refine g_in_ret ?_ | refine g_then_exit ?_ | refine g_in_exit rfl ?_ | refine g_in_exit_ne (by decide) ?_ | refine g_seq ?_ | refine g_region ?_ | refine g_block ?_ | refine g_ret ?_ | refine g_return_n ?_ | refine g_exit ?_ | refine g_skip ?_)
    exact g_next
  · intro D
    repeat (first | refine g_endt ?_ | refine g_end ?_ | refine g_then ?_ | refine g_in_normal ?_ | refine g_then_ret ?_ | refine g_in_ret ?_ | refine g_then_exit ?_ | refine g_in_exit rfl ?_ | refine g_in_exit_ne (by decide) ?_ | refine g_seq ?_ | refine g_region ?_ | refine g_block ?_ | refine g_ret ?_ | refine g_return_n ?_ | refine g_exit ?_ | refine g_skip ?_)
    refine openP p q ys fun S e T d => ?_
    refine g_draw [] [0,1,2,3] [cellsB p #[.slice S ys.length e] 35, cellsB q #[.slice T ys.length d] 28] mixed rfl ?_
    refine ob_q rfl rfl ⟨_, fun X Q h => o_load1 (v := .slice S ys.length e) rfl rfl (g_end (h _ _ ⟨rfl, rfl⟩)), ?_⟩
    refine ob_q rfl rfl ⟨_, fun X Q h => o_load1 (v := .slice T ys.length d) rfl rfl (g_end (h _ _ ⟨rfl, rfl⟩)), ?_⟩
    refine ob_q rfl rfl ⟨_, fun X Q h => o_assign (g_end (h _ _ ⟨rfl, rfl⟩)), ?_⟩
    refine ob_q rfl rfl ⟨_, fun X Q h => o_assign (g_end (h _ _ ⟨rfl, rfl⟩)), ?_⟩
    refine ob_nil ?_
    repeat (first | refine g_endt ?_ | refine g_end ?_ | refine g_then ?_ | refine g_in_normal ?_ | refine g_then_ret ?_ | refine g_in_ret ?_ | refine g_then_exit ?_ | refine g_in_exit rfl ?_ | refine g_in_exit_ne (by decide) ?_ | refine g_seq ?_ | refine g_region ?_ | refine g_block ?_ | refine g_ret ?_ | refine g_return_n ?_ | refine g_exit ?_ | refine g_skip ?_)
    exact ret2 rfl (resT rfl) (resT rfl) ⟨S, e, T, d, rfl, rfl⟩
  · intro D c pre hp
    exact G.pu fun h => h.elim
end Go.Proofs.Ytlognaddmbolgaa
/- Parts of slices that stay. Plain library, no program in sight. -/
namespace Go.Sl
open Go Go.Proofs Go.RowKit

section
variable {w0 : World} {A : SProp} {L : List SProp} {ro : Option Nat} {P : Program} {Q : Exit → Act → World → Prop} {all : Array Oper} {os : List Oper} {n : Nat} {ρ : Nat → Value} {ds : List Nat}
variable {d : Option Tmp} {ty : TypeId} {pos : String} {af : Array Edge} {x y : Operand}
variable {α : Type} {enc : α → List Value} {sz : Nat} {xs : List α} {S : Option Addr}
theorem rdE.take {h : Hp} (r : rdE S enc sz xs h) (k : Nat) : rdE S enc sz (xs.take k) h := fun i y hy => r i y (by
  rw [List.getElem?_take] at hy
  split at hy
  · exact hy
  · cases hy)
/-- Where 's[k:]' begins. -/
def offA (S : Option Addr) (c k sz : Nat) : Option Addr := if c = k then S else S.map (·.add (k * sz))
theorem rdE.drop {h : Hp} (r : rdE S enc sz xs h) (c k : Nat) (hc : xs.length ≤ c) : rdE (offA S c k sz) enc sz (xs.drop k) h := fun i y hy => by
  rw [List.getElem?_drop] at hy
  have hlt : k + i < xs.length := (List.getElem?_eq_some_iff.1 hy).1
  obtain ⟨b, o, rfl, hu⟩ := r (k + i) y hy
  refine ⟨b, o + k * sz, ?_, fun j u hj => ?_⟩
  · unfold offA
    rw [if_neg (by omega)]
    simp [add_off]
  · have := hu j u hj
    rwa [show o + ((k + i) * sz + j) = o + k * sz + (i * sz + j) by rw [Nat.add_mul]; omega] at this
theorem psl_take_ent (k : Nat) {M : List SProp} [tk : Take1 L (psl enc sz S xs) M] : Ent (sl L) (star (psl enc sz S (xs.take k)) (sl L)) := by
  refine (sl_perm tk.perm).trans (Ent.trans ?_ ((Ent.refl _).star (sl_perm tk.perm.symm)))
  exact fun B h ⟨k1, k2, d, l1, l2, x, y⟩ => ⟨hnil, h, (Dj.nil _).symm, .nil _, .refl _, rdE.take x k, k1, k2, d, l1, l2, x, y⟩
theorem psl_drop_ent (c k : Nat) (hc : xs.length ≤ c) {M : List SProp} [tk : Take1 L (psl enc sz S xs) M] : Ent (sl L) (star (psl enc sz (offA S c k sz) (xs.drop k)) (sl L)) := by
  refine (sl_perm tk.perm).trans (Ent.trans ?_ ((Ent.refl _).star (sl_perm tk.perm.symm)))
  exact fun B h ⟨k1, k2, d, l1, l2, x, y⟩ => ⟨hnil, h, (Dj.nil _).symm, .nil _, .refl _, rdE.drop x c k hc, k1, k2, d, l1, l2, x, y⟩
/-- 's[:k]'. -/
theorem o_uptoP {t e : TypeId} {sz' c len k : Nat} {kd : IntKind} {m : Int} (hx : ev n ρ x = .slice S len c) (hy : ev n ρ y = .int kd m) (hm : m = (k : Int)) [st : SlTy P t e sz'] (hc : k ≤ c)
    (h : G w0 A L (fun w => runL ro P all Q os (act n (updo ρ d (.slice S k c)) ds) w)) :
    G w0 A L (fun w => runL ro P all Q ({ dst := d, op := .slice t x none (some y) none, type := ty, pos := pos, after := af, guard := none } :: os) (act n ρ ds) w) := by
  subst hm
  refine o_val (v := .slice S k c) rfl (by intro c e; cases e) (fun w hw hh => ?_) h
  simp only [execOp]
  refine run_v ?_
  have hkc : (k : Int) ≤ (c : Int) := by omega
  simp only [Option.map_none, Option.map_some, hx, hy]
  simp [Instr.sliceAt, Instr.slice, run_underlying st.ty, Instr.sliceBounds, Instr.sliceBound, asIntOf, st.size]
  rw [if_pos hc]
  cases S <;> simp [Addr.add]
/-- 's[k:]'. -/
theorem o_fromP {t e : TypeId} {sz' c len k : Nat} {kd : IntKind} {m : Int} (hx : ev n ρ x = .slice S len c) (hy : ev n ρ y = .int kd m) (hm : m = (k : Int)) [st : SlTy P t e sz'] (hk : k ≤ len)
    (h : G w0 A L (fun w => runL ro P all Q os (act n (updo ρ d (.slice (offA S c k sz') (len - k) (c - k))) ds) w)) :
    G w0 A L (fun w => runL ro P all Q ({ dst := d, op := .slice t x (some y) none none, type := ty, pos := pos, after := af, guard := none } :: os) (act n ρ ds) w) := by
  subst hm
  refine o_val (v := .slice (offA S c k sz') (len - k) (c - k)) rfl (by intro c e; cases e) (fun w hw hh => ?_) h
  simp only [execOp]
  refine run_v ?_
  simp only [Option.map_none, Option.map_some, hx, hy]
  simp [Instr.sliceAt, Instr.slice, run_underlying st.ty, Instr.sliceBounds, Instr.sliceBound, asIntOf, st.size, offA]
  exact fun hlt => absurd hlt (by omega)
theorem G.taken (k : Nat) {M : List SProp} {Φ : World → Prop} [tk : Take1 L (psl enc sz S xs) M] (h : G w0 A (psl enc sz S (xs.take k) :: L) Φ) : G w0 A L Φ := G.ent (L := L) (L' := psl enc sz S (xs.take k) :: L) (psl_take_ent k) h
theorem G.dropped (c k : Nat) (hc : xs.length ≤ c) {M : List SProp} {Φ : World → Prop} [tk : Take1 L (psl enc sz S xs) M] (h : G w0 A (psl enc sz (offA S c k sz) (xs.drop k) :: L) Φ) : G w0 A L Φ :=
  G.ent (L := L) (L' := psl enc sz (offA S c k sz) (xs.drop k) :: L) (psl_drop_ent c k hc) h
/-- A cut behind a block (a loop, say), where what follows stands in the exit already. -/
theorem g_cutb {F : Fence} {m : Nat} {σ : Type} {n : Nat} {ρ : Nat → Value} {ds ds' : List Nat} {x : Code} {id : Nat} {K : Act → World → Prop} (T : σ → List (Nat × Value)) (H : σ → List SProp) (ok : σ → Prop)
    (h : G w0 A L (fun w => x.wpIn F m P (Exit.inBlock id (Exit.then (Meets w0 A n ds' T H ok) Q)) (act n ρ ds) w))
    (k : ∀ s ρ', ok s → G w0 A (H s) (fun w => K (act n (updl ρ' (T s)) ds') w)) : G w0 A L (fun w => x.wpIn F m P (Exit.inBlock id (Exit.then K Q)) (act n ρ ds) w) := by
  refine h.mono fun _ hw => wpIn_mono hw ?_
  intro e a w' hq
  cases e with
  | normal => exact Meets.elim (Φ := K) hq k
  | exit j =>
    simp only [Exit.inBlock] at hq ⊢
    split at hq
    · rename_i hj; rw [if_pos hj]; exact Meets.elim (Φ := K) hq k
    · rename_i hj; rw [if_neg hj]; exact hq
  | _ => exact hq
end
end Go.Sl
