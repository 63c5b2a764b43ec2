/- Owned rows: stores into them, a shorter view of them, new ones; ordered sets as one assertion. Plain library, no program in sight. -/
import Derived.Test.YtlognaddmbolgaaSl6
import Derived.Laws.MakeOwn
namespace Go.Sl
open Go Go.Proofs Go.RowKit

section
variable {α : Type} {enc : α → List Value} {sz : Nat}
theorem flat_take [e : EncLen enc sz] : ∀ (ys : List α) (i : Nat), (ys.flatMap enc).take (i * sz) = (ys.take i).flatMap enc
  | [], i => by simp
  | y :: ys, 0 => by simp
  | y :: ys, i + 1 => by
    have h1 : (enc y).length = sz := e.len y
    have : (i + 1) * sz = (enc y).length + i * sz := by rw [h1, Nat.add_mul]; omega
    rw [List.flatMap_cons, this, List.take_length_add_append, flat_take ys i]
    simp
theorem flat_drop [e : EncLen enc sz] : ∀ (ys : List α) (i : Nat), (ys.flatMap enc).drop (i * sz) = (ys.drop i).flatMap enc
  | [], i => by simp
  | y :: ys, 0 => by simp
  | y :: ys, i + 1 => by
    have h1 : (enc y).length = sz := e.len y
    have : (i + 1) * sz = (enc y).length + i * sz := by rw [h1, Nat.add_mul]; omega
    rw [List.flatMap_cons, this, List.drop_length_add_append, flat_drop ys i]
    simp
theorem flat_set [e : EncLen enc sz] (ys : List α) (i : Nat) (z : α) (hi : i < ys.length) : (ys.set i z).flatMap enc = (ys.flatMap enc).take (i * sz) ++ enc z ++ (ys.flatMap enc).drop ((i + 1) * sz) := by
  rw [flat_take, flat_drop, List.set_eq_take_append_cons_drop, if_pos hi]
  simp [List.flatMap_append]
end

section
variable {w0 : World} {A : SProp} {L : List SProp} {ro : Option Nat} {P : Program} {Q : Exit → Act → World → Prop} {all : Array Oper} {os : List Oper} {n : Nat} {ρ : Nat → Value} {ds : List Nat}
variable {d : Option Tmp} {ty : TypeId} {pos : String} {af : Array Edge} {x y : Operand}
variable {α : Type} {enc : α → List Value} {sz : Nat} {xs : List α} {S : Option Addr}
/-- A store of a whole element into an owned row. -/
theorem o_storeE {t e : TypeId} {sz' c i : Nat} {v : Value} {z : α} {M : List SProp} (hx : ev n ρ x = padr S (i * sz)) (hy : ev n ρ y = v) [tk : Take1 L (osl e enc sz S c xs) M] [el : EncLen enc sz] [ts : TySz P t sz'] (hs : sz' = sz) (hv : v.cells.toList = enc z) (hi : i < xs.length)
    (h : G w0 A (osl e enc sz S c (xs.set i z) :: M) (fun w => runL ro P all Q os (act n (updo ρ d undef) ds) w)) :
    G w0 A L (fun w => runL ro P all Q ({ dst := d, op := .store t x y, type := ty, pos := pos, after := af, guard := none } :: os) (act n ρ ds) w) := by
  subst hs
  refine o_run rfl fun w hw hh => ?_
  refine ⟨fun _ _ => trivial, ?_⟩
  rw [Oper.semAt_eq _ _ _ (by intro c e; cases e), act_eval]
  have hh1 : holds (star (osl e enc sz' S c xs) (star A (sl M))) w := (hh.ent ((Ent.refl A).star (sl_perm tk.perm))).ent (Ent.swap _ _ _)
  have hopen : ∃ g cur, S = some ⟨g, 0, none⟩ ∧ (xs.length ≤ c ∧ c ≤ maxLen ∧ cur.size = c * sz' ∧ cur.toList.take (xs.length * sz') = xs.flatMap enc) ∧ holds (star (blk g (.cells cur e (0, 0))) (star A (sl M))) w := by
    obtain ⟨B, k, dd, l, m, k1, k2, d12, l1, l2, hx, hy⟩ := hh1
    rcases hx with ⟨_, rfl, _⟩ | ⟨g, cur, hA, hg, hr⟩
    · simp at hi
    · exact ⟨g, cur, hA, hr, B, k, dd, l, m, k1, k2, d12, l1, l2, hg, hy⟩
  obtain ⟨g, cur, rfl, ⟨h1, h2, h3, h4⟩, hh2⟩ := hopen
  have hbw : w.heap[g]? = some (.cells cur e (0, 0)) := (Sees.left (sees_blk g _)) w hh2
  have hvl : v.cells.toList.length = sz' := by rw [hv]; exact el.len z
  have hvs : v.cells.size = sz' := by rw [← Array.length_toList]; exact hvl
  have hle : i * sz' + sz' ≤ cur.size := by
    rw [h3]
    calc i * sz' + sz' = (i + 1) * sz' := by rw [Nat.add_mul]; omega
      _ ≤ c * sz' := Nat.mul_le_mul_right _ (by omega)
  have hst := run_storeCells_at (P := P) g (i * sz') e v.cells.toList 0 cur w hbw (by rw [hvl]; simpa using hle) (by rw [hv]; exact el.one z)
  have hpa : padr (some ⟨g, 0, none⟩) (i * sz') = .pointer (some ⟨g, i * sz', none⟩) := by rw [padr_some]; simp
  have hrun : (execOp (ev n ρ) { dst := d, op := .store t x y, type := ty, pos := pos, after := af, guard := none }).run P w = .ok .skip (w.setRow g (sto cur (i * sz') v.cells)) := by
    simp only [execOp, hx, hy, hpa]
    simp [Instr.storeAt, Instr.sureAddr, storeVar, ts.size, hvs, hst, sto]
  rw [hrun]
  show runL ro P all Q os ((act n ρ ds).put d undef) _
  rw [act_put]
  refine h _ (hw.trans (std_setRow _ _ _)) ?_
  have hh3 := hh2.update (o' := .cells (sto cur (i * sz') v.cells) e (0, 0)) (setRow_heap w g cur _ e _ hbw) (fun j hj => hp_setRow_ne w _ hj)
  have hsize : (sto cur (i * sz') v.cells).toList = cur.toList.take (i * sz') ++ enc z ++ cur.toList.drop ((i + 1) * sz') := by
    simp only [sto, hvl]
    rw [hv, show (i + 1) * sz' = i * sz' + sz' by rw [Nat.add_mul]; omega]
  have hcl : cur.toList.length = c * sz' := by rw [Array.length_toList, h3]
  refine (hh3.ent (Ent.star ?_ (Ent.refl _))).ent (Ent.swap _ _ _)
  intro B k hk
  refine .inr ⟨g, _, rfl, hk, by simpa using h1, h2, ?_, ?_⟩
  · rw [← Array.length_toList, hsize]
    have := el.len z
    simp only [List.length_append, List.length_take, List.length_drop, hcl, this]
    have h5 : (i + 1) * sz' ≤ c * sz' := Nat.mul_le_mul_right _ (by omega)
    have h6 : (i + 1) * sz' = i * sz' + sz' := by rw [Nat.add_mul]; omega
    omega
  · rw [hsize, List.length_set, flat_set xs i z hi, ← h4]
    have h5 : (i + 1) * sz' ≤ xs.length * sz' := Nat.mul_le_mul_right _ hi
    have h6 : (i + 1) * sz' = i * sz' + sz' := by rw [Nat.add_mul]; omega
    have h7 : xs.length * sz' ≤ cur.toList.length := by rw [hcl]; exact Nat.mul_le_mul_right _ h1
    have hl1 : (cur.toList.take (i * sz') ++ enc z).length = (i + 1) * sz' := by
      simp only [List.length_append, List.length_take, el.len]; omega
    rw [List.take_take, Nat.min_eq_left (by omega), List.drop_take]
    conv => lhs; rw [show xs.length * sz' = (cur.toList.take (i * sz') ++ enc z).length + (xs.length * sz' - (i + 1) * sz') by rw [hl1]; omega]
    rw [List.take_length_add_append]
theorem osl_take {e : TypeId} [el : EncLen enc sz] {c k : Nat} (hk : k ≤ xs.length) : Ent (osl e enc sz S c xs) (osl e enc sz S c (xs.take k)) := by
  rintro B h (⟨hA, rfl, hc⟩ | ⟨g, cur, hA, hg, h1, h2, h3, h4⟩)
  · exact .inl ⟨hA, by simp, hc⟩
  · refine .inr ⟨g, cur, hA, hg, by simp; omega, h2, h3, ?_⟩
    rw [List.length_take, Nat.min_eq_left hk, ← flat_take, ← h4, List.take_take, Nat.min_eq_left (Nat.mul_le_mul_right _ hk)]
/-- An owned row grows no shorter than its room. -/
theorem osl_room {e : TypeId} {c : Nat} {C : SProp} {w : World} (h : holds (star (osl e enc sz S c xs) C) w) : xs.length ≤ c := by
  obtain ⟨_, _, _, _, _, _, _, _, _, _, x, _⟩ := h
  rcases x with ⟨_, rfl, rfl⟩ | ⟨_, _, _, _, h1, _⟩
  · exact Nat.le_refl _
  · exact h1
/-- 's[:k]' of an owned row. -/
theorem o_upto {t e : TypeId} {sz' c len k : Nat} {kd : IntKind} {m : Int} {M : List SProp} (hx : ev n ρ x = .slice S len c) (hy : ev n ρ y = .int kd m) (hm : m = (k : Int)) [tk : Take1 L (osl e enc sz S c xs) M] [el : EncLen enc sz] [st : SlTy P t e sz'] (hl : xs.length = len) (hk : k ≤ len)
    (h : G w0 A (osl e enc sz S c (xs.take k) :: M) (fun w => runL ro P all Q os (act n (updo ρ d (.slice S k c)) ds) w)) :
    G w0 A L (fun w => runL ro P all Q ({ dst := d, op := .slice t x none (some y) none, type := ty, pos := pos, after := af, guard := none } :: os) (act n ρ ds) w) := by
  subst hl hm
  have hh1 : ∀ w, holds (star A (sl L)) w → xs.length ≤ c := fun w hh => osl_room ((hh.ent ((Ent.refl A).star (sl_perm tk.perm))).ent (Ent.swap _ _ _))
  refine o_val (v := .slice S k c) rfl (by intro c e; cases e) (fun w hw hh => ?_) ?_
  · simp only [execOp]
    refine run_v ?_
    have hc := hh1 w hh
    have hkc : (k : Int) ≤ (c : Int) := by omega
    simp only [Option.map_none, Option.map_some, hx, hy]
    simp [Instr.sliceAt, Instr.slice, run_underlying st.ty, Instr.sliceBounds, Instr.sliceBound, asIntOf, st.size, hkc]
    have hkn : k ≤ c := by omega
    cases S <;> simp [Addr.add] <;> intro hck <;> exact absurd hck (by omega)
  · exact G.perm tk.perm (G.ent (L := osl e enc sz S c xs :: M) (L' := osl e enc sz S c (xs.take k) :: M) ((osl_take hk).star (Ent.refl _)) h)
theorem o_uptoR {t e : TypeId} {sz' c len k : Nat} {kd : IntKind} {m : Int} {M : List SProp} (hx : ev n ρ x = .slice S len c) (hy : ev n ρ y = .int kd m) (hm : m = (k : Int)) [tk : Take1 L (osl e enc sz S c xs) M] [st : SlTy P t e sz'] (hl : xs.length = len) (hk : k ≤ len)
    (h : G w0 A L (fun w => runL ro P all Q os (act n (updo ρ d (.slice S k c)) ds) w)) :
    G w0 A L (fun w => runL ro P all Q ({ dst := d, op := .slice t x none (some y) none, type := ty, pos := pos, after := af, guard := none } :: os) (act n ρ ds) w) := by
  subst hl hm
  have hh1 : ∀ w, holds (star A (sl L)) w → xs.length ≤ c := fun w hh => osl_room ((hh.ent ((Ent.refl A).star (sl_perm tk.perm))).ent (Ent.swap _ _ _))
  refine o_val (v := .slice S k c) rfl (by intro c e; cases e) (fun w hw hh => ?_) h
  simp only [execOp]
  refine run_v ?_
  have hc := hh1 w hh
  have hkc : (k : Int) ≤ (c : Int) := by omega
  simp only [Option.map_none, Option.map_some, hx, hy]
  simp [Instr.sliceAt, Instr.slice, run_underlying st.ty, Instr.sliceBounds, Instr.sliceBound, asIntOf, st.size, hkc]
  have hkn : k ≤ c := by omega
  cases S <;> simp [Addr.add] <;> intro hck <;> exact absurd hck (by omega)
theorem G.shorten {e : TypeId} [el : EncLen enc sz] {c : Nat} (k : Nat) {M : List SProp} {Φ : World → Prop} [tk : Take1 L (osl e enc sz S c xs) M] (hk : k ≤ xs.length) (h : G w0 A (osl e enc sz S c (xs.take k) :: M) Φ) : G w0 A L Φ :=
  G.perm tk.perm (G.ent (L := osl e enc sz S c xs :: M) (L' := osl e enc sz S c (xs.take k) :: M) ((osl_take hk).star (Ent.refl _)) h)
/-- 'make([]T, 0, c)'. -/
theorem o_make0 {t e : TypeId} {s bytes c : Nat} {kl kc : IntKind} {m : Int} (hx : ev n ρ x = .int kl 0) (hy : ev n ρ y = .int kc m) (hm : m = (c : Int)) [at_ : ApTy P t e s bytes] [en : EncLen enc s] (hb : bytes * c ≤ 281474976710656) (hc : c ≤ maxLen)
    (h : ∀ S, G w0 A (osl e enc s S c ([] : List α) :: L) (fun w => runL ro P all Q os (act n (updo ρ d (.slice S 0 c)) ds) w)) :
    G w0 A L (fun w => runL ro P all Q ({ dst := d, op := .makeSlice t x y, type := ty, pos := pos, after := af, guard := none } :: os) (act n ρ ds) w) := by
  subst hm
  refine o_run rfl fun w hw hh => ?_
  refine ⟨fun _ _ => trivial, ?_⟩
  rw [Oper.semAt_eq _ _ _ (by intro c e; cases e), act_eval]
  obtain ⟨i, z, ht, hi, hz, h1, h2, h3⟩ := at_.ex
  obtain ⟨w', hrun, ho, hg⟩ := run_make_own (P := P) w 0 t e i z s ht hi hz h1 kl kc c (by rw [h2]; exact hb) hc (Nat.zero_le _)
  have hh1 : holds (star (osl e enc s none 0 ([] : List α)) (star A (sl L))) w := by
    obtain ⟨B, k, dd, l, m, x⟩ := hh
    exact ⟨B, k, dd, l, m, hnil, k, (Dj.nil _).symm, .nil _, .refl _, .inl ⟨rfl, rfl, rfl⟩, x⟩
  obtain ⟨S2, c3, he, hh2⟩ := hh1.grown (zs := ([] : List α)) ho (by simpa [Value.ownBlock] using hg) (.inr rfl)
  simp only [Value.slice.injEq, List.length_nil, true_and] at he
  obtain ⟨rfl, rfl⟩ := he
  have hex : (execOp (ev n ρ) { dst := d, op := .makeSlice t x y, type := ty, pos := pos, after := af, guard := none }).run P w = .ok (.value (.slice (some ⟨w.heap.size, 0, none⟩) 0 c)) w' := by
    simp only [execOp, hx, hy]
    simp [hrun]
  rw [hex]
  show runL ro P all Q os ((act n ρ ds).put d _) w'
  rw [act_put]
  exact h _ w' (hw.trans ⟨hg.os, hg.tape, hg.output, hg.size⟩) (hh2.ent (Ent.swap _ _ _))

/-- 'append' to an empty owned row. -/
theorem o_append0 {t e : TypeId} {s bytes c c2 len : Nat} {ys : List α} {S' : Option Addr} {tys : Array TypeId} {M : List SProp} (hx : ev n ρ x = .slice S 0 c) (hy : ev n ρ y = .slice S' len c2) (ht : tys = #[t, t]) [at_ : ApTy P t e s bytes] [en : EncLen enc sz] (hs : s = sz)
    [hr : HasRd L S' enc sz ys] (hlen : ys.length = len) [tk : Take1 L (osl e enc sz S c ([] : List α)) M] (hmax : ys.length ≤ maxLen) (hbytes : ys.length * bytes ≤ 140737488355328)
    (h : ∀ S2 c3, G w0 A (osl e enc sz S2 c3 ys :: M) (fun w => runL ro P all Q os (act n (updo ρ d (.slice S2 len c3)) ds) w)) :
    G w0 A L (fun w => runL ro P all Q ({ dst := d, op := .call { callee := .builtin .append, args := #[x, y], argTypes := tys }, type := ty, pos := pos, after := af, guard := none } :: os) (act n ρ ds) w) :=
  o_append (xs := ([] : List α)) hx hy ht hs hlen (fun _ => .inr trivial) (by simpa using hmax) (by simpa using hbytes) fun S2 c3 => by
    have := h S2 c3
    rw [← hlen] at this
    simpa using this
/-- A function held against nil. -/
theorem o_fnil {xt yt : TypeId} {fn : Fn} {a c : Array Value} (hx : ev n ρ x = .func fn a c) (hg : ∀ w, (eqGuard .eql xt x (.const .nilFunc) (.func fn a c) .nilFunc).run P w = .ok () w) (hr : ∀ w, (binOp .eql xt (.func fn a c) .nilFunc).run P w = .ok (.bool false) w)
    (h : G w0 A L (fun w => runL ro P all Q os (act n (updo ρ d (.bool false)) ds) w)) :
    G w0 A L (fun w => runL ro P all Q ({ dst := d, op := .binOp .eql xt x (.const .nilFunc) yt, type := ty, pos := pos, after := af, guard := none } :: os) (act n ρ ds) w) :=
  o_val rfl (by intro c e; cases e) (fun w _ _ => run_bin (by rw [hx]; exact hg w) (by rw [hx]; exact hr w)) h
/-- What a block holds, written otherwise. -/
theorem G.norm (b : Nat) (cs' : Array Value) {e : TypeId} {cs : Array Value} {f : Obj → List SProp} {Φ : World → Prop} [rb : RepBlk L b (.cells cs e (0, 0)) f] (hc : cs = cs') (h : G w0 A (f (.cells cs' e (0, 0))) Φ) : G w0 A L Φ := by
  subst hc
  obtain ⟨M, p, q⟩ := rb.perm
  exact G.perm (p.trans (q _).symm) h

/-! ### Ordered sets -/
/-- A row, owned, or seen by somebody: then it stays for ever. -/
def row (e : TypeId) (enc : α → List Value) (sz : Nat) (b : Bool) (S : Option Addr) (c : Nat) (ys : List α) : SProp := cond b (psl enc sz S ys) (osl e enc sz S c ys)
instance {e : TypeId} {b : Bool} {c : Nat} {ys : List α} [EncLen enc sz] : HasRd (row e enc sz b S c ys :: L) S enc sz ys := ⟨by
  cases b
  · exact (HasRd.ohead (L := L) (A := S) (e := e) (c := c) (ys := ys)).sees
  · exact (HasRd.head (L := L) (A := S) (ys := ys)).sees⟩
theorem G.see {e : TypeId} {b : Bool} {c : Nat} {ys : List α} {Φ : World → Prop} [EncLen enc sz] (h : G w0 A (psl enc sz S ys :: L) Φ) : G w0 A (row e enc sz b S c ys :: L) Φ := by
  cases b
  · exact G.freeze_slice h
  · exact h
theorem G.pu_in {q : Prop} {Φ : World → Prop} (hq : q) (h : G w0 A (Sl.pu q :: L) Φ) : G w0 A L Φ :=
  G.ent (L := L) (L' := Sl.pu q :: L) (show Ent (sl L) (star (Sl.pu q) (sl L)) from fun _ k x => ⟨hnil, k, (Dj.nil _).symm, .nil _, .refl _, hq, x⟩) h
theorem Take.setback {X Y : SProp} {L M : List SProp} [tk : Take1 L X M] : Take (X :: Y :: M) (Y :: L) [] := ⟨by rw [List.append_nil]; exact (List.Perm.swap _ _ _).trans (tk.perm.symm.cons Y)⟩
theorem G.see1 {e : TypeId} {b : Bool} {c : Nat} {ys : List α} {Φ : World → Prop} [EncLen enc sz] (h : G w0 A (psl enc sz S ys :: L) Φ) : G w0 A ([row e enc sz b S c ys] ++ L) Φ := G.see h
/-- A set at p whose members are these: its list, and whether the list is seen. -/
def SetP (st e : TypeId) (enc : α → List Value) (sz : Nat) (p : Nat) (ys : List α) : SProp :=
  ex fun r : Option Addr × Nat × Bool => sl [cellsB p #[.slice r.1 ys.length r.2.1, .bool r.2.2] st, row e enc sz r.2.2 r.1 r.2.1 ys]
variable {st e : TypeId} {p : Nat} {ys : List α} {M : List SProp} {Φ : World → Prop}
theorem SetP.open [tk : Take1 L (SetP st e enc sz p ys) M] (h : ∀ S c b, G w0 A (cellsB p #[.slice S ys.length c, .bool b] st :: row e enc sz b S c ys :: M) Φ) : G w0 A L Φ :=
  G.perm tk.perm (G.ex fun ⟨S, c, b⟩ => G.open_sl (h S c b))
theorem SetP.shut {S : Option Addr} {c : Nat} {b : Bool} {len : Nat} (hl : ys.length = len) [tk : Take L [cellsB p #[.slice S len c, .bool b] st, row e enc sz b S c ys] M] (h : G w0 A (SetP st e enc sz p ys :: M) Φ) : G w0 A L Φ := by
  subst hl
  refine G.perm tk.perm (G.ent ?_ h)
  refine (sl_append_to _ M).trans (Ent.star ?_ (Ent.refl _))
  exact fun B k x => ⟨(S, c, b), x⟩
end
end Go.Sl
