/- The law on values of another type, walked. -/
import Derived.Test.YtlognaddmbolgaaK0
import Derived.Test.YtlognaddmbolgaaKI
import Derived.Test.YtlognaddmbolgaaMSL2
namespace Go.Proofs.Ytlognaddmbolgaa
open Go Go.Sl
attribute [local irreducible] Code.wpIn roundPost bodyPostM runL Ret Meets Begin

/-- A row of numbers among rows: where it lies, and what it reads as. -/
structure RowD where
  a : Option Addr
  len : Nat
  cap : Nat
  zs : List Int
def encR (r : RowD) : List Value := [.slice r.a r.len r.cap]
instance : EncLen encR 1 := ⟨fun _ => rfl, fun _ u h => by simp [encR] at h; subst h; rfl⟩
/-- Each row's numbers, for ever. -/
def prows (rs : List RowD) : SProp := ⟨fun B _ => ∀ r ∈ rs, rdE r.a encI 1 r.zs B, fun l _ h r hr => (h r hr).le l⟩
instance {rs : List RowD} : Pers (prows rs) := ⟨fun _ _ x => x⟩
theorem G.row {w0 : World} {A : SProp} {L M : List SProp} {Φ : World → Prop} {rs : List RowD} {r : RowD} [tk : Take1 L (prows rs) M] (hr : r ∈ rs) (h : G w0 A (psl encI 1 r.a r.zs :: L) Φ) : G w0 A L Φ := by
  refine G.ent (L' := psl encI 1 r.a r.zs :: L) ?_ h
  refine (sl_perm tk.perm).trans (Ent.trans ?_ ((Ent.refl _).star (sl_perm tk.perm.symm)))
  exact fun B k ⟨k1, k2, d, l1, l2, x, y⟩ => ⟨hnil, k, (Dj.nil _).symm, .nil _, .refl _, x r hr, k1, k2, d, l1, l2, x, y⟩
def keyI (j : Nat) : SymD := ⟨2, ByteArray.empty, (j : Int)⟩
def pgs (rs : List RowD) : List PgSL := rs.mapIdx fun j r => ⟨keyI j, ⟨r.a, r.len, r.cap⟩⟩
theorem keyI_lt {i j : Nat} (h : i < j) : SymD.cmp (keyI i) (keyI j) < 0 := by
  simp only [SymD.cmp, lex, keyI, linS.refl, linI.refl]
  unfold cmpI
  simp
  omega
theorem pgs_get (rs : List RowD) (i : Nat) : (pgs rs)[i]? = rs[i]?.map fun r => ⟨keyI i, ⟨r.a, r.len, r.cap⟩⟩ := by
  simp [pgs, List.getElem?_mapIdx]
theorem pgs_len (rs : List RowD) : (pgs rs).length = rs.length := by simp [pgs]
theorem pgs_srt (rs : List RowD) : Srt PgSL.cmp (pgs rs) := by
  intro i j a b hij ha hb
  rw [pgs_get] at ha hb
  cases hi : rs[i]? with
  | none => rw [hi] at ha; cases ha
  | some r =>
    cases hj : rs[j]? with
    | none => rw [hj] at hb; cases hb
    | some q =>
      rw [hi] at ha; rw [hj] at hb
      cases ha; cases hb
      exact keyI_lt hij
/-- One row more goes behind all. -/
theorem pgs_put (rs : List RowD) (i : Nat) (r : RowD) (hr : rs[i]? = some r) {k : Nat} {there : Bool} (h : FindR PgSL.cmp (pgs (rs.take i)) ⟨keyI i, ⟨r.a, r.len, r.cap⟩⟩ k there) :
    there = false ∧ putLSL (pgs (rs.take i)) (keyI i) ⟨r.a, r.len, r.cap⟩ k there = pgs (rs.take (i + 1)) := by
  have hi : i < rs.length := (List.getElem?_eq_some_iff.1 hr).1
  have hlen : (pgs (rs.take i)).length = i := by rw [pgs_len]; simp; omega
  have hlt : ∀ j y, (pgs (rs.take i))[j]? = some y → PgSL.cmp y ⟨keyI i, ⟨r.a, r.len, r.cap⟩⟩ < 0 := fun j y hy => by
    have hj : j < i := by rw [← hlen]; exact (List.getElem?_eq_some_iff.1 hy).1
    rw [pgs_get] at hy
    cases hq : (rs.take i)[j]? with
    | none => rw [hq] at hy; cases hy
    | some q => rw [hq] at hy; cases hy; exact keyI_lt hj
  have ht : there = false := by
    cases there with
    | false => rfl
    | true =>
      obtain ⟨y, hy, e⟩ := h.2.1 rfl
      have := hlt k y hy
      omega
  subst ht
  refine ⟨rfl, ?_⟩
  obtain ⟨_, h2⟩ := h.2.2 rfl
  have hk : k = i := by
    have h1 := h.1
    rw [hlen] at h1
    by_cases e : k = i
    · exact e
    · exfalso
      have hk2 : k < (pgs (rs.take i)).length := by rw [hlen]; omega
      have h3 := h2 k _ (Nat.le_refl _) (List.getElem?_eq_getElem hk2)
      have h4 := hlt k _ (List.getElem?_eq_getElem hk2)
      omega
  subst hk
  show (pgs (rs.take k)).take k ++ ⟨keyI k, ⟨r.a, r.len, r.cap⟩⟩ :: (pgs (rs.take k)).drop k = _
  rw [List.take_of_length_le (by omega), List.drop_of_length_le (by omega), take_snoc rs k r hr]
  have hl : (rs.take k).length = k := by simp; omega
  simp [pgs, List.mapIdx_append, hl]
end Go.Proofs.Ytlognaddmbolgaa
