/- The walk over the separation logic: goals, control, operations. Plain library, no program in sight. -/
import Derived.Test.YtlognaddmbolgaaSl1
namespace Go.Sl
open Go Go.Proofs

/-! ### Frames -/
def upd (ρ : Nat → Value) (d : Nat) (v : Value) : Nat → Value := fun i => cond (Nat.beq i d) v (ρ i)
def updo (ρ : Nat → Value) (d : Option Nat) (v : Value) : Nat → Value := match d with | some d => upd ρ d v | none => ρ
def markOf (D : Nat) : Deferred := { target := .collected D, args := #[] }
def act (n : Nat) (ρ : Nat → Value) (ds : List Nat) : Act := { tmps := Array.ofFn (n := n) fun i => ρ i.1, defers := ds.map markOf }
def ev (n : Nat) (ρ : Nat → Value) : Operand → Value
  | .tmp t => cond (Nat.blt t n) (ρ t) undef
  | .const v => v
  | .global g => .pointer (some ⟨g, 0, none⟩)
  | .func f => .func (.func f) #[] #[]
theorem upd_same (ρ : Nat → Value) (d : Nat) (v : Value) : upd ρ d v d = v := by simp [upd]
theorem upd_ne (ρ : Nat → Value) {d i : Nat} (v : Value) (h : i ≠ d) : upd ρ d v i = ρ i := by
  have : Nat.beq i d = false := by
    cases hc : Nat.beq i d with
    | false => rfl
    | true => exact absurd (Nat.eq_of_beq_eq_true hc) h
  simp [upd, this]
theorem upd_self (ρ : Nat → Value) {d : Nat} {v : Value} (h : ρ d = v) : upd ρ d v = ρ := by
  funext i
  by_cases e : i = d
  · subst e; rw [upd_same, h]
  · rw [upd_ne _ _ e]
theorem act_eval (n : Nat) (ρ : Nat → Value) (ds : List Nat) : (act n ρ ds).eval = ev n ρ := by
  funext x
  cases x with
  | tmp t =>
    simp only [Act.eval, act, ev]
    by_cases h : t < n
    · have hb : Nat.blt t n = true := by simpa [Nat.blt_eq] using h
      simp [hb, h]
    · have hb : Nat.blt t n = false := by
        cases hc : Nat.blt t n with
        | false => rfl
        | true => exact absurd (by rwa [Nat.blt_eq] at hc) h
      simp [hb, h]
  | _ => rfl
theorem act_put (n : Nat) (ρ : Nat → Value) (ds : List Nat) (d : Option Nat) (v : Value) : (act n ρ ds).put d v = act n (updo ρ d v) ds := by
  cases d with
  | none => rfl
  | some d =>
    simp only [Act.put, act, updo]
    congr 1
    apply Array.ext
    · simp
    · intro i h1 h2
      simp only [Array.size_setIfInBounds, Array.size_ofFn] at h1
      rw [Array.getElem_setIfInBounds (by simpa using h1)]
      by_cases e : d = i
      · subst e; simp [upd]
      · have hne : ¬ i = d := fun h => e h.symm
        simp [e, upd_ne _ _ hne]
theorem act_tmp (n : Nat) (ρ : Nat → Value) (ds : List Nat) (t : Nat) : (act n ρ ds).tmps[t]? = cond (Nat.blt t n) (some (ρ t)) none := by
  simp only [act]
  by_cases h : t < n
  · have hb : Nat.blt t n = true := by simpa [Nat.blt_eq] using h
    simp [hb, h]
  · have hb : Nat.blt t n = false := by
      cases hc : Nat.blt t n with
      | false => rfl
      | true => exact absurd (by rwa [Nat.blt_eq] at hc) h
    simp [hb, h]
theorem entry_act (n : Nat) (args : Array Value) (h : args.size ≤ n) : ({ tmps := args ++ Array.replicate (n - args.size) undef, defers := [] } : Act) = act n (fun i => args.getD i undef) [] := by
  simp only [act, List.map_nil]
  congr 1
  apply Array.ext
  · simp; omega
  · intro i h1 h2
    simp at h1 h2
    by_cases e : i < args.size
    · simp [e]
    · rw [Array.getElem_append_right (by omega)]; simp [e]

def WF (ro : Option Nat) : Fence := { Fence.wide with round := ro }
theorem callsWF {ro : Option Nat} {n : Nat} {P : Program} {f : FuncId} {args : Array Value} {w : World} {R : Ending → World → Prop} : CallsIn (WF ro) n P f args w R ↔ Calls P f args w R :=
  callsIn_wide (n := n)

/-! ### Goals: from whatever world that came out of w0 and in which all of the list holds -/
def G (w0 : World) (A : SProp) (L : List SProp) (Φ : World → Prop) : Prop := ∀ w, Std w0 w → holds (star A (sl L)) w → Φ w

section
variable {w0 : World} {A : SProp} {L L' : List SProp} {Φ Ψ : World → Prop}
theorem G.mono (h : G w0 A L Φ) (k : ∀ w, Φ w → Ψ w) : G w0 A L Ψ := fun w s x => k w (h w s x)
theorem G.ent (e : Ent (sl L) (sl L')) (h : G w0 A L' Φ) : G w0 A L Φ := fun w s x => h w s (x.ent ((Ent.refl A).star e))
theorem G.perm (e : L.Perm L') (h : G w0 A L' Φ) : G w0 A L Φ := h.ent (sl_perm e)
theorem G.went (e : ∀ w, holds (star A (sl L)) w → holds (star A (sl L')) w) (h : G w0 A L' Φ) : G w0 A L Φ := fun w s x => h w s (e w x)
theorem G.drop {X : SProp} (h : G w0 A L Φ) : G w0 A (X :: L) Φ := h.ent (Ent.right _ _)
theorem G.pu {p : Prop} (h : p → G w0 A L Φ) : G w0 A (pu p :: L) Φ := fun w s x => by
  obtain ⟨hp, hx⟩ := (x.ent (Ent.swap _ _ _)).pu
  exact h hp w s hx
theorem G.ex {α : Type} {C : α → SProp} (h : ∀ x, G w0 A (C x :: L) Φ) : G w0 A (ex C :: L) Φ := fun w s x => by
  obtain ⟨y, hy⟩ := (x.ent (Ent.swap _ _ _)).ex
  exact h y w s (hy.ent (Ent.swap _ _ _))
theorem G.freeze {b : Nat} {o : Obj} (h : G w0 A (pblk b o :: L) Φ) : G w0 A (blk b o :: L) Φ := fun w s x =>
  h w s ((x.ent (Ent.swap _ _ _)).freeze.ent (Ent.swap _ _ _))
theorem G.open_star {X Y : SProp} (h : G w0 A (X :: Y :: L) Φ) : G w0 A (star X Y :: L) Φ := h.ent (L' := X :: Y :: L) (Ent.assoc X Y (sl L))
theorem G.open_sl {M : List SProp} (h : G w0 A (M ++ L) Φ) : G w0 A (sl M :: L) Φ := h.ent (sl_append_of _ _)
theorem G.shut_sl {M : List SProp} (h : G w0 A (sl M :: L) Φ) : G w0 A (M ++ L) Φ := h.ent (sl_append_to _ _)
end

/-! ### Finding things in a list of assertions -/
class HasBlk (L : List SProp) (b : Nat) (o : outParam Obj) : Prop where
  sees : Sees (sl L) (fun h => h b = some o)
instance (priority := low) HasBlk.tail {X : SProp} {L : List SProp} {b : Nat} {o : Obj} [h : HasBlk L b o] : HasBlk (X :: L) b o := ⟨h.sees.right⟩
instance HasBlk.head {L : List SProp} {b : Nat} {o : Obj} : HasBlk (blk b o :: L) b o := ⟨(sees_blk b o).left⟩
instance HasBlk.phead {L : List SProp} {b : Nat} {o : Obj} : HasBlk (pblk b o :: L) b o := ⟨(sees_pblk b o).left⟩

/-- Block b of the list may be changed. -/
class RepBlk (L : List SProp) (b : Nat) (o : outParam Obj) (f : outParam (Obj → List SProp)) : Prop where
  perm : ∃ M, L.Perm (blk b o :: M) ∧ ∀ o', (f o').Perm (blk b o' :: M)
instance (priority := low) RepBlk.tail {X : SProp} {L : List SProp} {b : Nat} {o : Obj} {f : Obj → List SProp} [h : RepBlk L b o f] : RepBlk (X :: L) b o (fun o' => X :: f o') :=
  ⟨let ⟨M, p, q⟩ := h.perm; ⟨X :: M, (p.cons X).trans (.swap _ _ _), fun o' => ((q o').cons X).trans (.swap _ _ _)⟩⟩
instance RepBlk.head {L : List SProp} {b : Nat} {o : Obj} : RepBlk (blk b o :: L) b o (fun o' => blk b o' :: L) := ⟨L, .refl _, fun _ => .refl _⟩

class Take1 (L : List SProp) (X : SProp) (M : outParam (List SProp)) : Prop where
  perm : L.Perm (X :: M)
instance (priority := low) Take1.tail {Y X : SProp} {L M : List SProp} [h : Take1 L X M] : Take1 (Y :: L) X (Y :: M) := ⟨(h.perm.cons Y).trans (.swap _ _ _)⟩
instance Take1.head {X : SProp} {L : List SProp} : Take1 (X :: L) X L := ⟨.refl _⟩
theorem perm_mid {X : SProp} {L M N : List SProp} (h : L.Perm (X :: N)) : (M ++ L).Perm (X :: (M ++ N)) := (h.append_left M).trans List.perm_middle
instance HasBlk.appl {L X : List SProp} {b : Nat} {o : Obj} [h : HasBlk L b o] : HasBlk (L ++ X) b o := ⟨h.sees.left.ent (sl_append_to L X)⟩
instance (priority := low) HasBlk.appr {L X : List SProp} {b : Nat} {o : Obj} [h : HasBlk X b o] : HasBlk (L ++ X) b o := ⟨h.sees.right.ent (sl_append_to L X)⟩
instance RepBlk.appl {L X : List SProp} {b : Nat} {o : Obj} {f : Obj → List SProp} [h : RepBlk L b o f] : RepBlk (L ++ X) b o (fun o' => f o' ++ X) :=
  ⟨let ⟨M, p, q⟩ := h.perm; ⟨M ++ X, p.append_right X, fun o' => (q o').append_right X⟩⟩
instance (priority := low) RepBlk.appr {L X : List SProp} {b : Nat} {o : Obj} {f : Obj → List SProp} [h : RepBlk X b o f] : RepBlk (L ++ X) b o (fun o' => L ++ f o') :=
  ⟨let ⟨M, p, q⟩ := h.perm; ⟨L ++ M, perm_mid p, fun o' => perm_mid (q o')⟩⟩
instance Take1.appl {X : SProp} {L M N : List SProp} [h : Take1 L X M] : Take1 (L ++ N) X (M ++ N) := ⟨h.perm.append_right N⟩
instance (priority := low) Take1.appr {X : SProp} {L M N : List SProp} [h : Take1 N X M] : Take1 (L ++ N) X (L ++ M) := ⟨perm_mid h.perm⟩
class Take (L : List SProp) (K : List SProp) (M : outParam (List SProp)) : Prop where
  perm : L.Perm (K ++ M)
instance Take.nil {L : List SProp} : Take L [] L := ⟨.refl _⟩
instance Take.cons {X : SProp} {L L1 K M : List SProp} [h : Take1 L X L1] [k : Take L1 K M] : Take L (X :: K) M := ⟨h.perm.trans (k.perm.cons X)⟩
instance (priority := low) Take.appr {L N K M : List SProp} [h : Take N K M] : Take (L ++ N) K (L ++ M) := ⟨by
  refine (h.perm.append_left L).trans ?_
  rw [← List.append_assoc, ← List.append_assoc]
  exact (List.perm_append_comm).append_right M⟩
instance (priority := low) Take.appl {L N K M : List SProp} [h : Take L K M] : Take (L ++ N) K (M ++ N) := ⟨by rw [← List.append_assoc]; exact h.perm.append_right N⟩
instance (priority := low) Take.drop {Y : SProp} {L K M : List SProp} [h : Take L K M] : Take (Y :: L) K (Y :: M) := ⟨(h.perm.cons Y).trans List.perm_middle.symm⟩
instance (priority := low) Take.self {L : List SProp} : Take L L [] := ⟨by rw [List.append_nil]⟩
/-- A frame's slots, checked one by one. -/
def Sat (ρ : Nat → Value) : List (Nat × Value) → Prop
  | [] => True
  | (d, v) :: l => ρ d = v ∧ Sat ρ l
theorem Sat.mem {ρ : Nat → Value} : ∀ {l : List (Nat × Value)}, Sat ρ l → ∀ p ∈ l, ρ p.1 = p.2
  | [], _, p, h => by simp at h
  | (d, v) :: l, ⟨h1, h2⟩, p, h => by
    rcases List.mem_cons.1 h with rfl | h
    · exact h1
    · exact h2.mem p h

section
variable {w0 : World} {A : SProp} {L : List SProp} {Φ : World → Prop}
/-- Some of the list first. -/
theorem G.bring (K : List SProp) {M : List SProp} [t : Take L K M] (h : G w0 A (K ++ M) Φ) : G w0 A L Φ := h.perm t.perm
theorem G.forget (K : List SProp) {M : List SProp} [t : Take L K M] (h : G w0 A K Φ) : G w0 A L Φ :=
  (h.ent (L := K ++ M) ((sl_append_to K M).trans (Ent.left _ _))).perm t.perm
theorem G.has {b : Nat} {o : Obj} [t : HasBlk L b o] (h : ∀ u, holds (star A (sl L)) u → hp u b = some o → Φ u) : G w0 A L Φ :=
  fun u _ x => h u x (t.sees.right u x)
end

theorem holds.rep {A : SProp} {L : List SProp} {w w' : World} {b : Nat} {o o' : Obj} {f : Obj → List SProp} [t : RepBlk L b o f] (h : holds (star A (sl L)) w) (hb : hp w' b = some o') (ho : ∀ k, k ≠ b → hp w' k = hp w k) :
    holds (star A (sl (f o'))) w' := by
  obtain ⟨M, p, q⟩ := t.perm
  have h1 := (h.ent ((Ent.refl A).star (sl_perm p))).ent (Ent.swap _ _ _)
  exact ((h1.update hb ho).ent (Ent.swap _ _ _)).ent ((Ent.refl A).star (sl_perm (q o').symm))
theorem RepBlk.sees {L : List SProp} {b : Nat} {o : Obj} {f : Obj → List SProp} [t : RepBlk L b o f] : Sees (sl L) (fun h => h b = some o) := by
  obtain ⟨M, p, _⟩ := t.perm
  exact (Sees.left (C := sl M) (sees_blk b o)).ent (sl_perm p)

/-! ### Control -/
section
variable {w0 : World} {A : SProp} {L : List SProp} {F : Fence} {m : Nat} {P : Program} {Q : Exit → Act → World → Prop} {a : Act}
theorem g_seq {x y : Code} (h : G w0 A L (fun w => x.wpIn F m P (Exit.then (y.wpIn F m P Q) Q) a w)) : G w0 A L (fun w => (Code.seq x y).wpIn F m P Q a w) := h.mono fun _ => wpIn_seq
theorem g_block {i : Nat} {c : Code} (h : G w0 A L (fun w => c.wpIn F m P (Exit.inBlock i Q) a w)) : G w0 A L (fun w => (Code.block i c).wpIn F m P Q a w) := h.mono fun _ => wpIn_block
theorem g_exit {i : Nat} (h : G w0 A L (fun w => Q (.exit i) a w)) : G w0 A L (fun w => (Code.exit i).wpIn F m P Q a w) := h.mono fun _ => wpIn_exit
theorem g_ret (h : G w0 A L (fun w => Q .ret a w)) : G w0 A L (fun w => Code.ret.wpIn F m P Q a w) := h.mono fun _ => wpIn_ret
theorem g_skip (h : G w0 A L (fun w => Q .normal a w)) : G w0 A L (fun w => Code.skip.wpIn F m P Q a w) := h.mono fun _ => wpIn_skip
theorem g_then {K : Act → World → Prop} (h : G w0 A L (fun w => K a w)) : G w0 A L (fun w => Exit.then K Q .normal a w) := h
theorem g_then_ret {K : Act → World → Prop} (h : G w0 A L (fun w => Q .ret a w)) : G w0 A L (fun w => Exit.then K Q .ret a w) := h
theorem g_then_exit {K : Act → World → Prop} {i : Nat} (h : G w0 A L (fun w => Q (.exit i) a w)) : G w0 A L (fun w => Exit.then K Q (.exit i) a w) := h
theorem g_in_normal {i : Nat} (h : G w0 A L (fun w => Q .normal a w)) : G w0 A L (fun w => Exit.inBlock i Q .normal a w) := h
theorem g_in_ret {i : Nat} (h : G w0 A L (fun w => Q .ret a w)) : G w0 A L (fun w => Exit.inBlock i Q .ret a w) := h
theorem g_in_exit {i j : Nat} (e : j = i) (h : G w0 A L (fun w => Q .normal a w)) : G w0 A L (fun w => Exit.inBlock i Q (.exit j) a w) := h.mono fun _ k => by
  show (if j = i then _ else _)
  rw [if_pos e]; exact k
theorem g_in_exit_ne {i j : Nat} (e : j ≠ i) (h : G w0 A L (fun w => Q (.exit j) a w)) : G w0 A L (fun w => Exit.inBlock i Q (.exit j) a w) := h.mono fun _ k => by
  show (if j = i then _ else _)
  rw [if_neg e]; exact k
theorem g_cond {n : Nat} {ρ : Nat → Value} {ds : List Nat} {c : Operand} {x y : Code} {t : Bool} (hc : ev n ρ c = .bool t)
    (h1 : t = true → G w0 A L (fun w => x.wpIn F m P Q (act n ρ ds) w)) (h0 : t = false → G w0 A L (fun w => y.wpIn F m P Q (act n ρ ds) w)) :
    G w0 A L (fun w => (Code.cond c x y).wpIn F m P Q (act n ρ ds) w) := by
  cases t with
  | true => exact (h1 rfl).mono fun _ h => wpIn_cond_true (by rw [act_eval]; exact hc) h
  | false => exact (h0 rfl).mono fun _ h => wpIn_cond_false (by rw [act_eval]; exact hc) h
theorem g_cond_t {n : Nat} {ρ : Nat → Value} {ds : List Nat} {c : Operand} {x y : Code} {t : Bool} (hc : ev n ρ c = .bool t) (ht : t = true)
    (h1 : G w0 A L (fun w => x.wpIn F m P Q (act n ρ ds) w)) : G w0 A L (fun w => (Code.cond c x y).wpIn F m P Q (act n ρ ds) w) := g_cond hc (fun _ => h1) (fun h => by rw [ht] at h; cases h)
theorem g_cond_f {n : Nat} {ρ : Nat → Value} {ds : List Nat} {c : Operand} {x y : Code} {t : Bool} (hc : ev n ρ c = .bool t) (ht : t = false)
    (h0 : G w0 A L (fun w => y.wpIn F m P Q (act n ρ ds) w)) : G w0 A L (fun w => (Code.cond c x y).wpIn F m P Q (act n ρ ds) w) := g_cond hc (fun h => by rw [ht] at h; cases h) (fun _ => h0)

/-- What is asked at a place where ways meet, or at a loop's head: a state of the family is there. -/
def Meets {σ : Type} (w0 : World) (A : SProp) (n : Nat) (ds : List Nat) (S : σ → List (Nat × Value)) (H : σ → List SProp) (ok : σ → Prop) (a : Act) (w : World) : Prop :=
  ∃ s ρ, ok s ∧ a = act n ρ ds ∧ (∀ p ∈ S s, ρ p.1 = p.2) ∧ Std w0 w ∧ holds (star A (sl (H s))) w
def updl (ρ : Nat → Value) : List (Nat × Value) → Nat → Value
  | [] => ρ
  | (d, v) :: l => upd (updl ρ l) d v
theorem updl_self {ρ : Nat → Value} {l : List (Nat × Value)} (h : ∀ p ∈ l, ρ p.1 = p.2) : updl ρ l = ρ := by
  induction l with
  | nil => rfl
  | cons p l ih =>
    obtain ⟨d, v⟩ := p
    simp only [updl]
    rw [ih fun q hq => h q (List.mem_cons_of_mem _ hq)]
    exact upd_self ρ (h (d, v) List.mem_cons_self)
theorem Meets.elim {σ : Type} {n : Nat} {ds : List Nat} {S : σ → List (Nat × Value)} {H : σ → List SProp} {ok : σ → Prop} {w : World} {Φ : Act → World → Prop} (h : Meets w0 A n ds S H ok a w)
    (k : ∀ s ρ, ok s → G w0 A (H s) (fun w => Φ (act n (updl ρ (S s)) ds) w)) : Φ a w := by
  obtain ⟨s, ρ, ho, rfl, hs, hw, hh⟩ := h
  have := k s ρ ho w hw hh
  rwa [updl_self hs] at this
/-- A cut. -/
theorem g_cut {σ : Type} {n : Nat} {ρ : Nat → Value} {ds ds' : List Nat} {x y : Code} (S : σ → List (Nat × Value)) (H : σ → List SProp) (ok : σ → Prop)
    (h : G w0 A L (fun w => x.wpIn F m P (Exit.then (Meets w0 A n ds' S H ok) Q) (act n ρ ds) w))
    (k : ∀ s ρ', ok s → G w0 A (H s) (fun w => y.wpIn F m P Q (act n (updl ρ' (S s)) ds') w)) : G w0 A L (fun w => (Code.seq x y).wpIn F m P Q (act n ρ ds) w) := by
  refine h.mono fun _ hw => wpIn_seq (wpIn_mono hw ?_)
  intro e a w' hq
  cases e with
  | normal => exact Meets.elim (Φ := fun a w => y.wpIn F m P Q a w) hq k
  | _ => exact hq
/-- A cut where what follows stands in the exit already. -/
theorem g_cutk {σ : Type} {n : Nat} {ρ : Nat → Value} {ds ds' : List Nat} {x : Code} {K : Act → World → Prop} (S : σ → List (Nat × Value)) (H : σ → List SProp) (ok : σ → Prop)
    (h : G w0 A L (fun w => x.wpIn F m P (Exit.then (Meets w0 A n ds' S H ok) Q) (act n ρ ds) w))
    (k : ∀ s ρ', ok s → G w0 A (H s) (fun w => K (act n (updl ρ' (S s)) ds') w)) : G w0 A L (fun w => x.wpIn F m P (Exit.then K Q) (act n ρ ds) w) := by
  refine h.mono fun _ hw => wpIn_mono hw ?_
  intro e a w' hq
  cases e with
  | normal => exact Meets.elim (Φ := K) hq k
  | _ => exact hq
theorem g_meets {σ : Type} {n : Nat} {ρ : Nat → Value} {ds : List Nat} {S : σ → List (Nat × Value)} {H : σ → List SProp} {ok : σ → Prop} {M : List SProp} (s : σ) (ho : ok s) (hs : ∀ p ∈ S s, ρ p.1 = p.2) [t : Take L (H s) M] :
    G w0 A L (fun w => Meets w0 A n ds S H ok (act n ρ ds) w) := fun _ hw hh =>
  ⟨s, ρ, ho, rfl, hs, hw, hh.ent ((Ent.refl A).star ((sl_perm t.perm).trans ((sl_append_to _ _).trans (Ent.left _ _))))⟩
/-- A loop, its measure read off a state that need not be seen in the frame. -/
theorem wpIn_loop_by {σ : Type} {c : Code} {w : World} (I : σ → Act → World → Prop) (μ : σ → Nat) (s0 : σ) (h0 : I s0 a w)
    (round : ∀ s a w, I s a w → c.wpIn F m P (Exit.then (fun a' w' => ∃ s', I s' a' w' ∧ μ s' < μ s) Q) a w) : (Code.loop c).wpIn F m P Q a w := by
  intro b k cs hro hb hr
  have key : ∀ j s a w, μ s = j → I s a w →
      ∃ e a' w', Q e a' w' ∧ ArrivesIn (Machine.fenced P F) P (lone (b.atR a (.code c :: .inLoop c :: k)) cs w) b k cs e a' w' := by
    intro j
    induction j using Nat.strongRecOn with
    | _ j ih =>
      intro s a w hn hI
      obtain ⟨e, a₁, w₁, hq, harr⟩ := round s a w hI b (.inLoop c :: k) cs hro hb hr
      cases e with
      | normal =>
        obtain ⟨s', hI₁, hlt⟩ := hq
        obtain ⟨e₂, a₂, w₂, hq₂, harr₂⟩ := ih (μ s') (hn ▸ hlt) s' a₁ w₁ rfl hI₁
        exact ⟨e₂, a₂, w₂, hq₂, .of_steps (StepsIn.trans harr (.one (fenced_calm hb hr rfl) stepR_inLoop)) harr₂⟩
      | exit id => exact ⟨_, a₁, w₁, hq, .pass (x := .inLoop c) rfl (fun _ _ => .inl (by simp)) harr⟩
      | goto l => exact ⟨_, a₁, w₁, hq, .pass (x := .inLoop c) rfl (fun _ _ => .inl (by simp)) harr⟩
      | ret => exact ⟨_, a₁, w₁, hq, .pass (x := .inLoop c) rfl (fun _ _ => .inl (by simp)) harr⟩
      | panic ch => exact ⟨_, a₁, w₁, hq, .pass (x := .inLoop c) rfl (fun _ _ => .inl (by simp)) harr⟩
      | outgrown => exact ⟨_, a₁, w₁, hq, .pass (x := .inLoop c) rfl (fun _ _ => .inl (by simp)) harr⟩
  obtain ⟨e, a', w', hq, harr⟩ := key _ s0 a w rfl h0
  exact ⟨e, a', w', hq, .of_steps (.one (fenced_calm hb hr rfl) stepR_loop) harr⟩
/-- A loop. -/
theorem g_loop {σ : Type} {n : Nat} {ρ : Nat → Value} {ds : List Nat} {c : Code} (S : σ → List (Nat × Value)) (H : σ → List SProp) (μ : σ → Nat) (s0 : σ) {M : List SProp}
    (h0 : ∀ p ∈ S s0, ρ p.1 = p.2) [t : Take L (H s0) M]
    (k : ∀ s ρ', G w0 A (H s) (fun w => c.wpIn F m P (Exit.then (Meets w0 A n ds S H (fun s' => μ s' < μ s)) Q) (act n (updl ρ' (S s)) ds) w)) :
    G w0 A L (fun w => (Code.loop c).wpIn F m P Q (act n ρ ds) w) := by
  intro w hw hh
  refine wpIn_loop_by (fun s a w => ∃ ρ, a = act n ρ ds ∧ (∀ p ∈ S s, ρ p.1 = p.2) ∧ Std w0 w ∧ holds (star A (sl (H s))) w) μ s0
    ⟨ρ, rfl, h0, hw, hh.ent ((Ent.refl A).star ((sl_perm t.perm).trans ((sl_append_to _ _).trans (Ent.left _ _))))⟩ ?_
  rintro s a w ⟨ρ, rfl, hs, hw, hh⟩
  have := k s ρ w hw hh
  rw [updl_self hs] at this
  refine wpIn_mono this ?_
  intro e a' w' hq
  cases e with
  | normal =>
    obtain ⟨s', ρ', ho, ha, hs', hw', hh'⟩ := hq
    exact ⟨s', ⟨ρ', ha, hs', hw', hh'⟩, ho⟩
  | _ => exact hq
end
end Go.Sl
