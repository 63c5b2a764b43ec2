/- From a contract to a row: arguments opened, what a law leaves behind. Plain library, no program in sight. -/
import Derived.Test.YtlognaddmbolgaaSl6
import Derived.ProofKit
import Derived.Deep.Slices
import Derived.Deep.Strs
import Derived.Lib.SmallJoins
namespace Go.Sl
open Go Go.Proofs Go.RowKit Go.ChangeShapes Go.WideShapes

theorem law_calls {P : Program} {f : FuncId} {args : List Value} {K : List SProp} {R : Value → List SProp → Prop} {W : World} (sp : Ctr P f args K R) (hK : holds (star (whole W) (sl K)) W) :
    Calls P f args.toArray W fun e W' => ∃ v L', e = .returned v ∧ R v L' ∧ Below W.heap.size W W' :=
  (sp W (whole W) hK).mono fun e W' ⟨v, L', he, hr, hh, hs⟩ => ⟨v, L', he, hr, hs.os, hs.tape, hs.output, hs.size, fun k hk => by
    have l : Le (hp W) (hp W') := (sees_whole W).left W' hh
    have h1 : hp W k = some W.heap[k] := by show W.heap[k]? = _; simp [hk]
    have h2 := l k _ h1
    show hp W' k = hp W k
    rw [h1, h2]⟩
theorem holds_nil (W : World) : holds (star (whole W) (sl [])) W := (holds_whole W).ent ((Ent.emp_left (whole W)).trans (Ent.comm _ _))
theorem holds_psl {W : World} {K : List SProp} {α : Type} {enc : α → List Value} {sz : Nat} {A : Option Addr} {ys : List α} (h : holds (star (whole W) (sl K)) W) (r : rdE A enc sz ys (hp W)) : holds (star (whole W) (sl (psl enc sz A ys :: K))) W := by
  obtain ⟨B, k, d, l, m, k1, k2, d12, l1, l2, x, y⟩ := h
  exact ⟨B, k, d, l, m, k1, k2, d12, l1, l2, x, hnil, k2, (Dj.nil _).symm, .nil _, .refl _, rdE.le r x, y⟩

section
variable {H : Type} {enc : TypeId × Value → H} {P : Program}
theorem trodAll_stays (hl : laidOutB P = true) {W W' : World} {sp : Nat → Bool} : ∀ {ts : List TypeId} {vs : List Value} {ds : List (DataW H)} {ps : List MemPlace}, (∀ t ∈ ts, P.readableRec t = true ∧ t < P.types.size) →
    DataW.TrodAll enc P W 0 (fun _ => true) true ts vs ds ps → (∀ p ∈ ps, W.sameAt W' p) → (∀ p ∈ ps, sp p.block = true) → DataW.TrodAll enc P W' 0 sp true ts vs ds ps
  | [], [], [], _, _, h, _, _ => h
  | t :: ts, v :: vs, d :: ds, _, hr, ⟨p, q, h1, h2, rfl⟩, hb, hs => ⟨p, q, WideElems.Trod_stays hl (hr t List.mem_cons_self).1 (hr t List.mem_cons_self).2 h1 (fun x hx => hb x (List.mem_append_left _ hx)) (fun x hx => hs x (List.mem_append_left _ hx)),
    trodAll_stays hl (fun u hu => hr u (List.mem_cons_of_mem _ hu)) h2 (fun x hx => hb x (List.mem_append_right _ hx)) (fun x hx => hs x (List.mem_append_right _ hx)), rfl⟩
/-- A law that answers true, and behind which nothing has turned that was there. -/
theorem post_law {f : Func} {s : ChangeSpec} {apart fresh handsOn again : Bool} {W W' : World} {args : Array Value} {ds gs : List (DataW H)} {before : List MemPlace} {tb : TypeId}
    (hW : DataW.Whole enc P f.params.toList s.vars apart W args.toList ds gs before) (hl : laidOutB P = true) (hvs : s.vars = [])
    (hs : s.fn H ds = { results := [.lit (.bool true)], args := ds }) (hr : f.resultTypes = #[tb]) (ht : P.underlying tb = some .bool)
    (hrow : ∀ t ∈ f.params.toList, P.readableRec t = true ∧ t < P.types.size) (hb : Below W.heap.size W W') :
    s.post enc P f apart fresh handsOn again W args (.bool true) W' := by
  have hlt : ∀ p ∈ before, p.block < W.heap.size := fun p hp => hW.lt p hp
  have hW0 := hW
  obtain ⟨p, q, hA, hV, rfl, hz, hn⟩ := hW
  have hgq : gs = [] ∧ q = [] := by
    rw [hvs] at hV
    cases gs with
    | nil => exact ⟨rfl, hV⟩
    | cons g gs => exact hV.elim
  obtain ⟨rfl, rfl⟩ := hgq
  simp only [List.append_nil] at hlt hz hn hW0
  have hsp : s.fn H (ds ++ []) = { results := [.lit (.bool true)], args := ds } := by rw [List.append_nil]; exact hs
  have hargs : ∀ sp : Nat → Bool, (∀ x ∈ p, sp x.block = true) → DataW.TrodAll enc P W' 0 sp true f.params.toList args.toList ds p :=
    fun sp h => trodAll_stays hl hrow hA (fun x hx => hb.same (hlt x hx)) h
  have hold : ∀ x ∈ p, decide (x.block < W.heap.size) = true := fun x hx => by simpa using hlt x hx
  have hvr : ∀ (sp : Nat → Bool), DataW.TrodVars enc P W' sp s.vars [] [] := fun sp => by rw [hvs]; exact rfl
  have hres : ∀ (b : Nat) (sp : Nat → Bool) (hd : Bool), DataW.TrodAll enc P W' b sp hd f.resultTypes.toList ((Value.bool true).resultList f.resultTypes.size) [.lit (.bool true)] [] := fun b sp hd => by
    rw [hr]
    exact trodAll_mk1 (shut_bool ht true)
  refine ⟨ds, [], p, [], p, [], hW0, by rw [hsp]; exact hres _ _ _, by rw [hsp]; exact hargs _ hold, by rw [hsp]; exact hvr _, World.keptBut_mono (fun x hx => ⟨hx, .inr (.inl hx)⟩) (hb.frame (· ∈ p)), fun _ => ⟨?_, ?_⟩⟩
  · exact ok_one hr rfl (okWide_bool_mk ht true)
  · refine ⟨_, [], ([] ++ p), ⟨[] ++ p, [], trodAll_append (hargs _ (fun _ _ => rfl)) (hres _ _ _), hvr _, by simp, ?_, ?_⟩, ?_⟩
    · intro b off hp
      have hin : MemPlace.cell b off ∈ p := by simpa using hp
      rw [hb.frozen (hlt _ hin)]
      exact hz b off hin
    · intro ha
      simpa using hn ha
    · intro x hx _
      simpa using hx

/-! ### Slices among the arguments -/
theorem mapM_get {α β : Type} {f : α → Option β} : ∀ {l : List α} {r : List β}, l.mapM f = some r → ∀ (i : Nat) (x : α), l[i]? = some x → ∃ y, r[i]? = some y ∧ f x = some y
  | [], r, h, i, x, hx => by simp at hx
  | a :: l, r, h, i, x, hx => by
    rw [List.mapM_cons] at h
    cases ha : f a with
    | none => rw [ha] at h; cases h
    | some b =>
      rw [ha] at h
      cases hr : l.mapM f with
      | none => rw [hr] at h; cases h
      | some r' =>
        rw [hr] at h
        cases h
        cases i with
        | zero => simp at hx; subst hx; exact ⟨b, rfl, ha⟩
        | succ i => exact mapM_get hr i x (by simpa using hx)
theorem cells_get {w : World} {a : Addr} {n : Nat} {cs : List Value} (h : w.cells? 0 a n = some cs) {j : Nat} {u : Value} (hu : cs[j]? = some u) : w.cell? (a.add j) = some u := by
  simp only [World.cells?, Nat.zero_le, if_true] at h
  have hl : cs.length = n := by have := mapM_some_length h; simpa using this
  have hj : j < n := by rw [← hl]; exact (List.getElem?_eq_some_iff.1 hu).1
  obtain ⟨y, h1, h2⟩ := mapM_get h j j (by simp [hj])
  rw [h1] at hu
  cases hu
  exact h2
theorem cellH_of_cell {w : World} {a : Addr} {u : Value} (h : w.cell? a = some u) : a.spot = none ∧ cellH (hp w) a.block a.off = some u := by
  unfold World.cell? at h
  unfold cellH hp
  cases hb : w.heap[a.block]? with
  | none => rw [hb] at h; cases h
  | some o =>
    rw [hb] at h
    cases o with
    | cells c t fr =>
      cases hs : a.spot with
      | none => simp [hs] at h; exact ⟨rfl, h⟩
      | some s => simp [hs] at h
    | _ => cases h
/-- A slice's one cell; its elements, told by what each element's cells are; that they lie there for ever. -/
theorem open_cs {t e : TypeId} {W : World} {fuel : Nat} {cs : List Value} {x : DataW H × List MemPlace} {α : Type} {en : α → List Value} {sz : Nat} {Pr : α → Prop} [el : EncLen en sz] (ht : P.underlying t = some (.slice e)) (hc : P.cellsOf e = sz) (hsz : 0 < sz)
    (he : ∀ n cs x, DataW.trod enc P W 0 (fun _ => true) true n e cs = some x → ∃ y : α, cs = en y ∧ Pr y) (hf : DataW.trod enc P W 0 (fun _ => true) true fuel t cs = some x) :
    ∃ (A : Option Addr) (len cap : Nat) (ys : List α), cs = [.slice A len cap] ∧ ys.length = len ∧ len ≤ maxLen ∧ rdE A en sz ys (hp W) ∧ ∀ y ∈ ys, Pr y := by
  rcases Go.Deep.open_slice ht hf with ⟨h1, _⟩ | ⟨a, len, cap, m, n, D, Pl, h1, _, hl, hm, hmm, _, hel⟩
  · exact ⟨none, 0, 0, [], h1, rfl, Nat.zero_le _, fun i y hy => by simp at hy, fun y hy => by simp at hy⟩
  · simp only [if_true] at hmm
    have key : ∀ i, i < len → ∃ y : α, (∀ j u, (en y)[j]? = some u → W.cell? ((a.add (i * sz)).add j) = some u) ∧ Pr y := fun i hi => by
      obtain ⟨cs', h2, h3⟩ := hel i (by omega)
      obtain ⟨y, rfl, hy⟩ := he n cs' _ h3
      rw [hc] at h2
      exact ⟨y, fun j u hu => cells_get h2 hu, hy⟩
    refine ⟨some a, len, cap, List.ofFn (fun i : Fin len => Classical.choose (key i.1 i.2)), h1, by simp, by omega, ?_, ?_⟩
    · intro i y hy
      have hi : i < len := by have := (List.getElem?_eq_some_iff.1 hy).1; simpa using this
      have hy' : y = Classical.choose (key i hi) := by simpa [hi] using hy.symm
      have hcs := (Classical.choose_spec (key i hi)).1
      rw [← hy'] at hcs
      have hs : a.spot = none := by
        obtain ⟨y0, hy0, _⟩ := key 0 (by omega)
        have hne : 0 < (en y0).length := by rw [el.len]; exact hsz
        have h0 := (cellH_of_cell (hy0 0 _ (List.getElem?_eq_getElem hne))).1
        simpa [Addr.add] using h0
      obtain ⟨b, k, sp⟩ := a
      dsimp only at hs
      subst hs
      refine ⟨b, k, rfl, fun j u hu => ?_⟩
      have h1 := (cellH_of_cell (hcs j u hu)).2
      simpa [add_off, Nat.add_assoc] using h1
    · intro y hy
      obtain ⟨i, rfl⟩ := List.mem_ofFn.1 hy
      exact (Classical.choose_spec (key i.1 i.2)).2
/-- A slice that is read. -/
theorem open_pslP {t e : TypeId} {v : Value} {d : DataW H} {ps : List MemPlace} {W : World} {α : Type} {en : α → List Value} {sz : Nat} {Pr : α → Prop} [el : EncLen en sz] (ht : P.underlying t = some (.slice e)) (hc : P.cellsOf e = sz) (hsz : 0 < sz)
    (he : ∀ n cs x, DataW.trod enc P W 0 (fun _ => true) true n e cs = some x → ∃ y : α, cs = en y ∧ Pr y) {b0 : Nat} (hv : Value.okWide P W .any b0 t v) (h : DataW.Trod enc P W 0 (fun _ => true) true t v d ps) :
    ∃ (A : Option Addr) (len cap : Nat) (ys : List α), v = .slice A len cap ∧ ys.length = len ∧ len ≤ maxLen ∧ rdE A en sz ys (hp W) ∧ ∀ y ∈ ys, Pr y := by
  obtain ⟨fuel, hf⟩ := h
  obtain ⟨a0, len0, cap0, rfl⟩ := okWide_slice ht hv
  obtain ⟨A, len, cap, ys, h1, h2⟩ := open_cs ht hc hsz he hf
  simp only [Value.cells, List.cons.injEq, and_true] at h1
  exact ⟨A, len, cap, ys, h1, h2⟩
theorem open_psl {t e : TypeId} {v : Value} {d : DataW H} {ps : List MemPlace} {W : World} {α : Type} {en : α → List Value} {sz : Nat} [el : EncLen en sz] (ht : P.underlying t = some (.slice e)) (hc : P.cellsOf e = sz) (hsz : 0 < sz)
    (he : ∀ n cs x, DataW.trod enc P W 0 (fun _ => true) true n e cs = some x → ∃ y : α, cs = en y) {b0 : Nat} (hv : Value.okWide P W .any b0 t v) (h : DataW.Trod enc P W 0 (fun _ => true) true t v d ps) :
    ∃ (A : Option Addr) (len cap : Nat) (ys : List α), v = .slice A len cap ∧ ys.length = len ∧ len ≤ maxLen ∧ rdE A en sz ys (hp W) :=
  let ⟨A, len, cap, ys, h1, h2, h3, h4, _⟩ := open_pslP (Pr := fun _ => True) ht hc hsz (fun n cs x hx => let ⟨y, hy⟩ := he n cs x hx; ⟨y, hy, trivial⟩) hv h
  ⟨A, len, cap, ys, h1, h2, h3, h4⟩
end
end Go.Sl
