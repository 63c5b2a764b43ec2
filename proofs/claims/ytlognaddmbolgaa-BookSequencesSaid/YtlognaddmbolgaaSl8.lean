/- Parts of slices that stay. Plain library, no program in sight. -/
import Derived.Test.YtlognaddmbolgaaSl7
namespace Go.Sl
open Go Go.Proofs Go.RowKit

section
variable {w0 : World} {A : SProp} {L : List SProp} {ro : Option Nat} {P : Program} {Q : Exit → Act → World → Prop} {all : Array Oper} {os : List Oper} {n : Nat} {ρ : Nat → Value} {ds : List Nat}
variable {d : Option Tmp} {ty : TypeId} {pos : String} {af : Array Edge} {x y : Operand}
variable {α : Type} {enc : α → List Value} {sz : Nat} {xs : List α} {S : Option Addr}
theorem rdE.take {h : Hp} (r : rdE S enc sz xs h) (k : Nat) : rdE S enc sz (xs.take k) h := fun i y hy => r i y (by
  rw [List.getElem?_take] at hy
  split at hy
  · exact hy
  · cases hy)
/-- Where 's[k:]' begins. -/
def offA (S : Option Addr) (c k sz : Nat) : Option Addr := if c = k then S else S.map (·.add (k * sz))
theorem rdE.drop {h : Hp} (r : rdE S enc sz xs h) (c k : Nat) (hc : xs.length ≤ c) : rdE (offA S c k sz) enc sz (xs.drop k) h := fun i y hy => by
  rw [List.getElem?_drop] at hy
  have hlt : k + i < xs.length := (List.getElem?_eq_some_iff.1 hy).1
  obtain ⟨b, o, rfl, hu⟩ := r (k + i) y hy
  refine ⟨b, o + k * sz, ?_, fun j u hj => ?_⟩
  · unfold offA
    rw [if_neg (by omega)]
    simp [add_off]
  · have := hu j u hj
    rwa [show o + ((k + i) * sz + j) = o + k * sz + (i * sz + j) by rw [Nat.add_mul]; omega] at this
theorem psl_take_ent (k : Nat) {M : List SProp} [tk : Take1 L (psl enc sz S xs) M] : Ent (sl L) (star (psl enc sz S (xs.take k)) (sl L)) := by
  refine (sl_perm tk.perm).trans (Ent.trans ?_ ((Ent.refl _).star (sl_perm tk.perm.symm)))
  exact fun B h ⟨k1, k2, d, l1, l2, x, y⟩ => ⟨hnil, h, (Dj.nil _).symm, .nil _, .refl _, rdE.take x k, k1, k2, d, l1, l2, x, y⟩
theorem psl_drop_ent (c k : Nat) (hc : xs.length ≤ c) {M : List SProp} [tk : Take1 L (psl enc sz S xs) M] : Ent (sl L) (star (psl enc sz (offA S c k sz) (xs.drop k)) (sl L)) := by
  refine (sl_perm tk.perm).trans (Ent.trans ?_ ((Ent.refl _).star (sl_perm tk.perm.symm)))
  exact fun B h ⟨k1, k2, d, l1, l2, x, y⟩ => ⟨hnil, h, (Dj.nil _).symm, .nil _, .refl _, rdE.drop x c k hc, k1, k2, d, l1, l2, x, y⟩
/-- 's[:k]'. -/
theorem o_uptoP {t e : TypeId} {sz' c len k : Nat} {kd : IntKind} {m : Int} (hx : ev n ρ x = .slice S len c) (hy : ev n ρ y = .int kd m) (hm : m = (k : Int)) [st : SlTy P t e sz'] (hc : k ≤ c)
    (h : G w0 A L (fun w => runL ro P all Q os (act n (updo ρ d (.slice S k c)) ds) w)) :
    G w0 A L (fun w => runL ro P all Q ({ dst := d, op := .slice t x none (some y) none, type := ty, pos := pos, after := af, guard := none } :: os) (act n ρ ds) w) := by
  subst hm
  refine o_val (v := .slice S k c) rfl (by intro c e; cases e) (fun w hw hh => ?_) h
  simp only [execOp]
  refine run_v ?_
  have hkc : (k : Int) ≤ (c : Int) := by omega
  simp only [Option.map_none, Option.map_some, hx, hy]
  simp [Instr.sliceAt, Instr.slice, run_underlying st.ty, Instr.sliceBounds, Instr.sliceBound, asIntOf, st.size]
  rw [if_pos hc]
  cases S <;> simp [Addr.add]
/-- 's[k:]'. -/
theorem o_fromP {t e : TypeId} {sz' c len k : Nat} {kd : IntKind} {m : Int} (hx : ev n ρ x = .slice S len c) (hy : ev n ρ y = .int kd m) (hm : m = (k : Int)) [st : SlTy P t e sz'] (hk : k ≤ len)
    (h : G w0 A L (fun w => runL ro P all Q os (act n (updo ρ d (.slice (offA S c k sz') (len - k) (c - k))) ds) w)) :
    G w0 A L (fun w => runL ro P all Q ({ dst := d, op := .slice t x (some y) none none, type := ty, pos := pos, after := af, guard := none } :: os) (act n ρ ds) w) := by
  subst hm
  refine o_val (v := .slice (offA S c k sz') (len - k) (c - k)) rfl (by intro c e; cases e) (fun w hw hh => ?_) h
  simp only [execOp]
  refine run_v ?_
  simp only [Option.map_none, Option.map_some, hx, hy]
  simp [Instr.sliceAt, Instr.slice, run_underlying st.ty, Instr.sliceBounds, Instr.sliceBound, asIntOf, st.size, offA]
  exact fun hlt => absurd hlt (by omega)
theorem G.taken (k : Nat) {M : List SProp} {Φ : World → Prop} [tk : Take1 L (psl enc sz S xs) M] (h : G w0 A (psl enc sz S (xs.take k) :: L) Φ) : G w0 A L Φ := G.ent (L := L) (L' := psl enc sz S (xs.take k) :: L) (psl_take_ent k) h
theorem G.dropped (c k : Nat) (hc : xs.length ≤ c) {M : List SProp} {Φ : World → Prop} [tk : Take1 L (psl enc sz S xs) M] (h : G w0 A (psl enc sz (offA S c k sz) (xs.drop k) :: L) Φ) : G w0 A L Φ :=
  G.ent (L := L) (L' := psl enc sz (offA S c k sz) (xs.drop k) :: L) (psl_drop_ent c k hc) h
/-- A cut behind a block (a loop, say), where what follows stands in the exit already. -/
theorem g_cutb {F : Fence} {m : Nat} {σ : Type} {n : Nat} {ρ : Nat → Value} {ds ds' : List Nat} {x : Code} {id : Nat} {K : Act → World → Prop} (T : σ → List (Nat × Value)) (H : σ → List SProp) (ok : σ → Prop)
    (h : G w0 A L (fun w => x.wpIn F m P (Exit.inBlock id (Exit.then (Meets w0 A n ds' T H ok) Q)) (act n ρ ds) w))
    (k : ∀ s ρ', ok s → G w0 A (H s) (fun w => K (act n (updl ρ' (T s)) ds') w)) : G w0 A L (fun w => x.wpIn F m P (Exit.inBlock id (Exit.then K Q)) (act n ρ ds) w) := by
  refine h.mono fun _ hw => wpIn_mono hw ?_
  intro e a w' hq
  cases e with
  | normal => exact Meets.elim (Φ := K) hq k
  | exit j =>
    simp only [Exit.inBlock] at hq ⊢
    split at hq
    · rename_i hj; rw [if_pos hj]; exact Meets.elim (Φ := K) hq k
    · rename_i hj; rw [if_neg hj]; exact hq
  | _ => exact hq
end
end Go.Sl
