/- The walk's operations. Plain library, no program in sight. -/
import Derived.Test.YtlognaddmbolgaaSl2
import Derived.Laws.CopyRow
import Derived.Laws.Cells
import Derived.IntWalk
namespace Go.Sl
open Go Go.Proofs

/-- A region's operations, one behind the other. -/
def runL (ro : Option Nat) (P : Program) (all : Array Oper) (Q : Exit → Act → World → Prop) : List Oper → Act → World → Prop
  | [], a, w => Q .normal a w
  | o :: os, a, w => if Region.wanted o (yielded all a.tmps) then o.wpIn (WF ro) 0 P a w (runL ro P all Q os) Q else runL ro P all Q os (a.put o.dst undef) w

theorem runL_sound_from {ro : Option Nat} {P : Program} {all : Array Oper} {Q : Exit → Act → World → Prop} : ∀ (os : List Oper) (k : Nat), all.toList.drop k = os → ∀ (a : Act) (w : World),
    runL ro P all Q os a w → wpOpsIn (WF ro) 0 P all Q (List.range' k os.length) a w
  | [], _, _, _, _, h => h
  | o :: os, k, hd, a, w, h => by
    have hk : all[k]? = some o := by
      have := congrArg (fun l => l[0]?) hd
      simpa using this
    have hd' : all.toList.drop (k + 1) = os := by
      have := congrArg List.tail hd
      simpa using this
    simp only [List.length_cons, List.range'_succ, wpOpsIn, hk]
    simp only [runL] at h
    split
    · rename_i hw
      rw [if_pos hw] at h
      exact Oper.wpIn_mono (fun a w h => runL_sound_from os (k + 1) hd' a w h) h
    · rename_i hw
      rw [if_neg hw] at h
      exact ⟨fun _ _ => trivial, runL_sound_from os (k + 1) hd' _ w h⟩
theorem runL_sound {ro : Option Nat} {P : Program} {all : Array Oper} {Q : Exit → Act → World → Prop} {a : Act} {w : World} (h : runL ro P all Q all.toList a w) : wpOpsIn (WF ro) 0 P all Q (List.range all.size) a w := by
  have := runL_sound_from (ro := ro) (P := P) (all := all) (Q := Q) all.toList 0 (by simp) a w h
  rwa [List.range_eq_range', ← Array.length_toList]

section
variable {w0 : World} {A : SProp} {L : List SProp} {ro : Option Nat} {P : Program} {Q : Exit → Act → World → Prop} {all : Array Oper} {os : List Oper} {n : Nat} {ρ : Nat → Value} {ds : List Nat}

theorem g_region {i : Nat} {l : List Oper} {a : Act} (h : G w0 A L (fun w => runL ro P l.toArray Q l a w)) : G w0 A L (fun w => (Code.region i l.toArray false).wpIn (WF ro) 0 P Q a w) :=
  h.mono fun _ k => wpIn_region (runL_sound (by simpa using k))
theorem g_end {a : Act} (h : G w0 A L (fun w => Q .normal a w)) : G w0 A L (fun w => runL ro P all Q [] a w) := h
theorem g_endt {a : Act} {K : Act → World → Prop} (h : G w0 A L (fun w => K a w)) : G w0 A L (fun w => runL ro P all (Exit.then K Q) [] a w) := h

/-- An operation whose guard asks for it. -/
theorem o_want {o : Oper} {j t : Nat} {b e : Bool} (hg : o.guard = some (j, b)) (hj : (all[j]?).bind (·.dst) = some t) (ht : ev n ρ (.tmp t) = .bool e) (hlt : Nat.blt t n = true) (he : e = b)
    (h : G w0 A L (fun w => runL ro P all Q ({ o with guard := none } :: os) (act n ρ ds) w)) : G w0 A L (fun w => runL ro P all Q (o :: os) (act n ρ ds) w) := by
  refine h.mono fun w k => ?_
  have hw : Region.wanted o (yielded all (act n ρ ds).tmps) = true := by
    simp only [ev, hlt, cond_true] at ht
    simp [Region.wanted, hg, yielded, hj, act_tmp, hlt, ht, he]
  simp only [runL, hw, if_true]
  simp only [runL, Region.wanted, if_true] at k
  exact k
theorem o_unwanted {o : Oper} {j t : Nat} {b e : Bool} (hg : o.guard = some (j, b)) (hj : (all[j]?).bind (·.dst) = some t) (ht : ev n ρ (.tmp t) = .bool e) (hlt : Nat.blt t n = true) (he : e = !b)
    (h : G w0 A L (fun w => runL ro P all Q os (act n (updo ρ o.dst undef) ds) w)) : G w0 A L (fun w => runL ro P all Q (o :: os) (act n ρ ds) w) := by
  refine h.mono fun w k => ?_
  have hw : Region.wanted o (yielded all (act n ρ ds).tmps) = false := by
    simp only [ev, hlt, cond_true] at ht
    simp [Region.wanted, hg, yielded, hj, act_tmp, hlt, ht, he]
  simp only [runL, hw, if_false, Bool.false_eq_true]
  rw [act_put]
  exact k
/-- A guard that asks for a value that is undefined (its own operation was passed over). -/
theorem o_undef {o : Oper} {j t : Nat} {b : Bool} (hg : o.guard = some (j, b)) (hj : (all[j]?).bind (·.dst) = some t) (ht : ρ t = undef)
    (h : G w0 A L (fun w => runL ro P all Q os (act n (updo ρ o.dst undef) ds) w)) : G w0 A L (fun w => runL ro P all Q (o :: os) (act n ρ ds) w) := by
  refine h.mono fun w k => ?_
  have hw : Region.wanted o (yielded all (act n ρ ds).tmps) = false := by
    simp [Region.wanted, hg, yielded, hj, act_tmp, ht, undef]
    cases hc : Nat.blt t n <;> simp
  simp only [runL, hw, if_false, Bool.false_eq_true]
  rw [act_put]
  exact k

theorem o_run {o : Oper} (hg : o.guard = none) (h : G w0 A L (fun w => o.wpIn (WF ro) 0 P (act n ρ ds) w (runL ro P all Q os) Q)) : G w0 A L (fun w => runL ro P all Q (o :: os) (act n ρ ds) w) := by
  refine h.mono fun w k => ?_
  simp only [runL, Region.wanted, hg, if_true]
  exact k

/-- An operation that yields a value and leaves the world as it is. -/
theorem o_val {o : Oper} {v : Value} (hg : o.guard = none) (hd : ∀ c, o.op ≠ .defer c) (hv : ∀ w, Std w0 w → holds (star A (sl L)) w → (execOp (ev n ρ) o).run P w = .ok (.value v) w)
    (h : G w0 A L (fun w => runL ro P all Q os (act n (updo ρ o.dst v) ds) w)) : G w0 A L (fun w => runL ro P all Q (o :: os) (act n ρ ds) w) := by
  refine o_run hg fun w hw hh => ?_
  refine ⟨fun _ _ => trivial, ?_⟩
  rw [Oper.semAt_eq _ _ _ hd, act_eval, hv w hw hh]
  show runL ro P all Q os ((act n ρ ds).put o.dst v) w
  rw [act_put]
  exact h w hw hh

variable {d : Option Tmp} {ty : TypeId} {pos : String} {af : Array Edge}

theorem o_move {x : Operand} (h : G w0 A L (fun w => runL ro P all Q os (act n (updo ρ d (ev n ρ x)) ds) w)) :
    G w0 A L (fun w => runL ro P all Q ({ dst := d, op := .move x, type := ty, pos := pos, after := af, guard := none } :: os) (act n ρ ds) w) :=
  o_val rfl (by intro c e; cases e) (fun _ _ _ => rfl) h
theorem o_assign {x : Operand} (h : G w0 A L (fun w => runL ro P all Q os (act n (updo ρ d (ev n ρ x)) ds) w)) :
    G w0 A L (fun w => runL ro P all Q ({ dst := d, op := .assign x, type := ty, pos := pos, after := af, guard := none } :: os) (act n ρ ds) w) :=
  o_val rfl (by intro c e; cases e) (fun _ _ _ => rfl) h
theorem o_pick {c x y : Operand} {t : Bool} (hc : ev n ρ c = .bool t) (h : G w0 A L (fun w => runL ro P all Q os (act n (updo ρ d (cond t (ev n ρ x) (ev n ρ y))) ds) w)) :
    G w0 A L (fun w => runL ro P all Q ({ dst := d, op := .pick c x y, type := ty, pos := pos, after := af, guard := none } :: os) (act n ρ ds) w) :=
  o_val rfl (by intro c e; cases e) (fun w _ _ => by
    simp only [execOp, hc, asBool]
    cases t <;> rfl) h
theorem o_pick_t {c x y : Operand} {t : Bool} (hc : ev n ρ c = .bool t) (ht : t = true) (h : G w0 A L (fun w => runL ro P all Q os (act n (updo ρ d (ev n ρ x)) ds) w)) :
    G w0 A L (fun w => runL ro P all Q ({ dst := d, op := .pick c x y, type := ty, pos := pos, after := af, guard := none } :: os) (act n ρ ds) w) := by subst ht; exact o_pick hc h
theorem o_pick_f {c x y : Operand} {t : Bool} (hc : ev n ρ c = .bool t) (ht : t = false) (h : G w0 A L (fun w => runL ro P all Q os (act n (updo ρ d (ev n ρ y)) ds) w)) :
    G w0 A L (fun w => runL ro P all Q ({ dst := d, op := .pick c x y, type := ty, pos := pos, after := af, guard := none } :: os) (act n ρ ds) w) := by subst ht; exact o_pick hc h

theorem run_v {s : Sem Value} {v : Value} {w : World} (h : s.run P w = .ok v w) : Sem.run P (do pure (Next.value (← s)) : Sem Next) w = .ok (.value v) w := by
  simp [h]

/-! #### Two operands -/
variable {x y : Operand} {xt yt : TypeId}
theorem run_bin {op : BinOp} {v : Value} {w : World} (hgd : (eqGuard op xt x y (ev n ρ x) (ev n ρ y)).run P w = .ok () w) (h : (binOp op xt (ev n ρ x) (ev n ρ y)).run P w = .ok v w) :
    (execOp (ev n ρ) { dst := d, op := .binOp op xt x y yt, type := ty, pos := pos, after := af, guard := none }).run P w = .ok (.value v) w := by
  simp only [execOp]
  refine run_v ?_
  simp [Sem.run_bind, hgd, h]
theorem guard_not {op : BinOp} {u v : Value} {w : World} (h : op ≠ .eql) (h' : op ≠ .neq) : (eqGuard op xt x y u v).run P w = .ok () w := by
  unfold eqGuard
  cases op <;> first | rfl | exact absurd rfl h | exact absurd rfl h'
theorem guard_int {op : BinOp} {k k' : IntKind} {a b : Int} {w : World} : (eqGuard op xt x y (.int k a) (.int k' b)).run P w = .ok () w := by
  unfold eqGuard
  cases op <;> rfl
theorem o_int {op : BinOp} {k : IntKind} {a b : Int} {v : Value} (hx : ev n ρ x = .int k a) (hy : ev n ρ y = .int k b) (hv : ∀ w : World, (binOp op xt (.int k a) (.int k b)).run P w = .ok v w)
    (h : G w0 A L (fun w => runL ro P all Q os (act n (updo ρ d v) ds) w)) :
    G w0 A L (fun w => runL ro P all Q ({ dst := d, op := .binOp op xt x y yt, type := ty, pos := pos, after := af, guard := none } :: os) (act n ρ ds) w) :=
  o_val rfl (by intro c e; cases e) (fun w _ _ => run_bin (by rw [hx, hy]; exact guard_int) (by rw [hx, hy]; exact hv w)) h
section
variable {k : IntKind} {a b : Int} (hx : ev n ρ x = .int k a) (hy : ev n ρ y = .int k b)
include hx hy
theorem o_lss (h : G w0 A L (fun w => runL ro P all Q os (act n (updo ρ d (.bool (decide (a < b)))) ds) w)) :
    G w0 A L (fun w => runL ro P all Q ({ dst := d, op := .binOp .lss xt x y yt, type := ty, pos := pos, after := af, guard := none } :: os) (act n ρ ds) w) := o_int hx hy (fun w => by simp [binOp, Op.intCmp]) h
theorem o_leq (h : G w0 A L (fun w => runL ro P all Q os (act n (updo ρ d (.bool (decide (a ≤ b)))) ds) w)) :
    G w0 A L (fun w => runL ro P all Q ({ dst := d, op := .binOp .leq xt x y yt, type := ty, pos := pos, after := af, guard := none } :: os) (act n ρ ds) w) := o_int hx hy (fun w => by simp [binOp, Op.intCmp]) h
theorem o_gtr (h : G w0 A L (fun w => runL ro P all Q os (act n (updo ρ d (.bool (decide (a > b)))) ds) w)) :
    G w0 A L (fun w => runL ro P all Q ({ dst := d, op := .binOp .gtr xt x y yt, type := ty, pos := pos, after := af, guard := none } :: os) (act n ρ ds) w) := o_int hx hy (fun w => by simp [binOp, Op.intCmp]) h
theorem o_geq (h : G w0 A L (fun w => runL ro P all Q os (act n (updo ρ d (.bool (decide (a ≥ b)))) ds) w)) :
    G w0 A L (fun w => runL ro P all Q ({ dst := d, op := .binOp .geq xt x y yt, type := ty, pos := pos, after := af, guard := none } :: os) (act n ρ ds) w) := o_int hx hy (fun w => by simp [binOp, Op.intCmp]) h
theorem o_eql (h : G w0 A L (fun w => runL ro P all Q os (act n (updo ρ d (.bool (a == b))) ds) w)) :
    G w0 A L (fun w => runL ro P all Q ({ dst := d, op := .binOp .eql xt x y yt, type := ty, pos := pos, after := af, guard := none } :: os) (act n ρ ds) w) := o_int hx hy (fun w => by simp [binOp, Op.intCmp]) h
theorem o_neq (h : G w0 A L (fun w => runL ro P all Q os (act n (updo ρ d (.bool (a != b))) ds) w)) :
    G w0 A L (fun w => runL ro P all Q ({ dst := d, op := .binOp .neq xt x y yt, type := ty, pos := pos, after := af, guard := none } :: os) (act n ρ ds) w) := o_int hx hy (fun w => by simp [binOp, Op.intCmp]) h
theorem o_addw (h : G w0 A L (fun w => runL ro P all Q os (act n (updo ρ d (.int k (k.wrap (a + b)))) ds) w)) :
    G w0 A L (fun w => runL ro P all Q ({ dst := d, op := .binOp .add xt x y yt, type := ty, pos := pos, after := af, guard := none } :: os) (act n ρ ds) w) := o_int hx hy (fun w => by simp [binOp, Op.intArith]) h
theorem o_subw (h : G w0 A L (fun w => runL ro P all Q os (act n (updo ρ d (.int k (k.wrap (a - b)))) ds) w)) :
    G w0 A L (fun w => runL ro P all Q ({ dst := d, op := .binOp .sub xt x y yt, type := ty, pos := pos, after := af, guard := none } :: os) (act n ρ ds) w) := o_int hx hy (fun w => by simp [binOp, Op.intArith]) h
theorem o_mulw (h : G w0 A L (fun w => runL ro P all Q os (act n (updo ρ d (.int k (k.wrap (a * b)))) ds) w)) :
    G w0 A L (fun w => runL ro P all Q ({ dst := d, op := .binOp .mul xt x y yt, type := ty, pos := pos, after := af, guard := none } :: os) (act n ρ ds) w) := o_int hx hy (fun w => by simp [binOp, Op.intArith]) h
theorem o_quow (hb : b ≠ 0) (h : G w0 A L (fun w => runL ro P all Q os (act n (updo ρ d (.int k (k.wrap (a.tdiv b)))) ds) w)) :
    G w0 A L (fun w => runL ro P all Q ({ dst := d, op := .binOp .quo xt x y yt, type := ty, pos := pos, after := af, guard := none } :: os) (act n ρ ds) w) := o_int hx hy (fun w => by simp [binOp, Op.intDiv, hb]) h
theorem o_rem (hb : b ≠ 0) (h : G w0 A L (fun w => runL ro P all Q os (act n (updo ρ d (.int k (a.tmod b))) ds) w)) :
    G w0 A L (fun w => runL ro P all Q ({ dst := d, op := .binOp .rem xt x y yt, type := ty, pos := pos, after := af, guard := none } :: os) (act n ρ ds) w) := o_int hx hy (fun w => by simp [binOp, Op.intDiv, hb]) h
end
section
variable {a b c : Int} (hx : ev n ρ x = .int .i64 a) (hy : ev n ρ y = .int .i64 b)
include hx hy
theorem o_add (hc : a + b = c) (h1 : -9223372036854775808 ≤ c) (h2 : c ≤ 9223372036854775807) (h : G w0 A L (fun w => runL ro P all Q os (act n (updo ρ d (.int .i64 c)) ds) w)) :
    G w0 A L (fun w => runL ro P all Q ({ dst := d, op := .binOp .add xt x y yt, type := ty, pos := pos, after := af, guard := none } :: os) (act n ρ ds) w) :=
  o_addw hx hy (by rw [hc, IntWalk.i64_in c ⟨h1, h2⟩]; exact h)
theorem o_sub (hc : a - b = c) (h1 : -9223372036854775808 ≤ c) (h2 : c ≤ 9223372036854775807) (h : G w0 A L (fun w => runL ro P all Q os (act n (updo ρ d (.int .i64 c)) ds) w)) :
    G w0 A L (fun w => runL ro P all Q ({ dst := d, op := .binOp .sub xt x y yt, type := ty, pos := pos, after := af, guard := none } :: os) (act n ρ ds) w) :=
  o_subw hx hy (by rw [hc, IntWalk.i64_in c ⟨h1, h2⟩]; exact h)
theorem o_quo (hb : b ≠ 0) (hc : a.tdiv b = c) (h1 : -9223372036854775808 ≤ c) (h2 : c ≤ 9223372036854775807) (h : G w0 A L (fun w => runL ro P all Q os (act n (updo ρ d (.int .i64 c)) ds) w)) :
    G w0 A L (fun w => runL ro P all Q ({ dst := d, op := .binOp .quo xt x y yt, type := ty, pos := pos, after := af, guard := none } :: os) (act n ρ ds) w) :=
  o_quow hx hy hb (by rw [hc, IntWalk.i64_in c ⟨h1, h2⟩]; exact h)
end
theorem o_seql {s t : ByteArray} (hx : ev n ρ x = .string s) (hy : ev n ρ y = .string t) (h : G w0 A L (fun w => runL ro P all Q os (act n (updo ρ d (.bool (s.toList == t.toList))) ds) w)) :
    G w0 A L (fun w => runL ro P all Q ({ dst := d, op := .binOp .eql xt x y yt, type := ty, pos := pos, after := af, guard := none } :: os) (act n ρ ds) w) :=
  o_val rfl (by intro c e; cases e) (fun w _ _ => run_bin (by rw [hx, hy]; rfl) (by rw [hx, hy]; rfl)) h
theorem o_sneq {s t : ByteArray} (hx : ev n ρ x = .string s) (hy : ev n ρ y = .string t) (h : G w0 A L (fun w => runL ro P all Q os (act n (updo ρ d (.bool (!(s.toList == t.toList)))) ds) w)) :
    G w0 A L (fun w => runL ro P all Q ({ dst := d, op := .binOp .neq xt x y yt, type := ty, pos := pos, after := af, guard := none } :: os) (act n ρ ds) w) :=
  o_val rfl (by intro c e; cases e) (fun w _ _ => run_bin (by rw [hx, hy]; rfl) (by rw [hx, hy]; rfl)) h
theorem o_slss {s t : ByteArray} (hx : ev n ρ x = .string s) (hy : ev n ρ y = .string t) (h : G w0 A L (fun w => runL ro P all Q os (act n (updo ρ d (.bool (Op.bytesLess s.toList t.toList))) ds) w)) :
    G w0 A L (fun w => runL ro P all Q ({ dst := d, op := .binOp .lss xt x y yt, type := ty, pos := pos, after := af, guard := none } :: os) (act n ρ ds) w) :=
  o_val rfl (by intro c e; cases e) (fun w _ _ => run_bin (by rw [hx, hy]; rfl) (by rw [hx, hy]; rfl)) h

/-- What two values of a type are held against each other by '==' comes to. -/
class EqTy (P : Program) (t : TypeId) (u v : Value) (r : outParam Bool) : Prop where
  run : ∀ w, (binOp .eql t u v).run P w = .ok (.bool r) w
  nrun : ∀ w, (binOp .neq t u v).run P w = .ok (.bool !r) w
  guard : ∀ (op : BinOp) (x y : Operand) w, (eqGuard op t x y u v).run P w = .ok () w
theorem o_eqty {u v : Value} {r : Bool} (hx : ev n ρ x = u) (hy : ev n ρ y = v) (e : EqTy P xt u v r) (h : G w0 A L (fun w => runL ro P all Q os (act n (updo ρ d (.bool r)) ds) w)) :
    G w0 A L (fun w => runL ro P all Q ({ dst := d, op := .binOp .eql xt x y yt, type := ty, pos := pos, after := af, guard := none } :: os) (act n ρ ds) w) :=
  o_val rfl (by intro c e; cases e) (fun w _ _ => run_bin (by rw [hx, hy]; exact e.guard _ _ _ w) (by rw [hx, hy]; exact e.run w)) h
theorem o_neqty {u v : Value} {r : Bool} (hx : ev n ρ x = u) (hy : ev n ρ y = v) (e : EqTy P xt u v r) (h : G w0 A L (fun w => runL ro P all Q os (act n (updo ρ d (.bool !r)) ds) w)) :
    G w0 A L (fun w => runL ro P all Q ({ dst := d, op := .binOp .neq xt x y yt, type := ty, pos := pos, after := af, guard := none } :: os) (act n ρ ds) w) :=
  o_val rfl (by intro c e; cases e) (fun w _ _ => run_bin (by rw [hx, hy]; exact e.guard _ _ _ w) (by rw [hx, hy]; exact e.nrun w)) h
theorem o_not {t : Bool} (hx : ev n ρ x = .bool t) (h : G w0 A L (fun w => runL ro P all Q os (act n (updo ρ d (.bool !t)) ds) w)) :
    G w0 A L (fun w => runL ro P all Q ({ dst := d, op := .unOp .not xt x, type := ty, pos := pos, after := af, guard := none } :: os) (act n ρ ds) w) :=
  o_val rfl (by intro c e; cases e) (fun w _ _ => by simp only [execOp]; exact run_v (by rw [hx]; rfl)) h
theorem o_neg {a c : Int} (hx : ev n ρ x = .int .i64 a) (hc : -a = c) (h1 : -9223372036854775808 ≤ c) (h2 : c ≤ 9223372036854775807) (h : G w0 A L (fun w => runL ro P all Q os (act n (updo ρ d (.int .i64 c)) ds) w)) :
    G w0 A L (fun w => runL ro P all Q ({ dst := d, op := .unOp .neg xt x, type := ty, pos := pos, after := af, guard := none } :: os) (act n ρ ds) w) :=
  o_val rfl (by intro c e; cases e) (fun w _ _ => by
    simp only [execOp]
    refine run_v ?_
    rw [hx]
    simp only [Op.unary, Op.intArith, Int.zero_sub, hc]
    rw [IntWalk.i64_in c ⟨h1, h2⟩]
    rfl) h

/-- A pointer against nil. -/
theorem eq_ptr_nil {u : TypeId} {q : Option Addr} (h : P.underlying xt = some (.pointer u)) (w : World) : (Op.equal xt (.pointer q) (.pointer none)).run P w = .ok q.isNone w := by
  unfold Op.equal Op.maxDepth Op.equalIn
  cases q <;> simp [run_underlying h]
class PtrTy (P : Program) (t : TypeId) : Prop where
  ty : ∃ u, P.underlying t = some (.pointer u)
theorem o_peql {q : Option Addr} (hx : ev n ρ x = .pointer q) [pt : PtrTy P xt] (h : G w0 A L (fun w => runL ro P all Q os (act n (updo ρ d (.bool q.isNone)) ds) w)) :
    G w0 A L (fun w => runL ro P all Q ({ dst := d, op := .binOp .eql xt x (.const (.pointer none)) yt, type := ty, pos := pos, after := af, guard := none } :: os) (act n ρ ds) w) :=
  o_val rfl (by intro c e; cases e) (fun w _ _ => run_bin (by rw [hx]; rfl) (by
    obtain ⟨u, hu⟩ := pt.ty
    rw [hx]
    show (binOp .eql xt (.pointer q) (.pointer none)).run P w = _
    simp only [binOp]
    simp [eq_ptr_nil hu])) h
theorem o_pneq {q : Option Addr} (hx : ev n ρ x = .pointer q) [pt : PtrTy P xt] (h : G w0 A L (fun w => runL ro P all Q os (act n (updo ρ d (.bool !q.isNone)) ds) w)) :
    G w0 A L (fun w => runL ro P all Q ({ dst := d, op := .binOp .neq xt x (.const (.pointer none)) yt, type := ty, pos := pos, after := af, guard := none } :: os) (act n ρ ds) w) :=
  o_val rfl (by intro c e; cases e) (fun w _ _ => run_bin (by rw [hx]; rfl) (by
    obtain ⟨u, hu⟩ := pt.ty
    rw [hx]
    show (binOp .neq xt (.pointer q) (.pointer none)).run P w = _
    simp only [binOp]
    simp [eq_ptr_nil hu])) h

/-! #### Addresses -/
theorem add_off (b k j : Nat) : (⟨b, k, none⟩ : Addr).add j = ⟨b, k + j, none⟩ := by
  unfold Addr.add
  split
  · rename_i h; subst h; rfl
  · rfl
theorem o_nil {a : Addr} (hx : ev n ρ x = .pointer (some a)) (h : G w0 A L (fun w => runL ro P all Q os (act n (updo ρ d (.pointer (some a))) ds) w)) :
    G w0 A L (fun w => runL ro P all Q ({ dst := d, op := .nilCheck x, type := ty, pos := pos, after := af, guard := none } :: os) (act n ρ ds) w) :=
  o_val rfl (by intro c e; cases e) (fun w _ _ => by simp only [execOp, hx]; rfl) h
class FieldOff (P : Program) (t : TypeId) (f : Nat) (off : outParam Nat) : Prop where
  run : ∀ b k w, (Instr.fieldAt t (.pointer (some ⟨b, k, none⟩)) f).run P w = .ok (.pointer (some ⟨b, k + off, none⟩)) w
theorem o_field {t : TypeId} {f off b k : Nat} (hx : ev n ρ x = .pointer (some ⟨b, k, none⟩)) [fo : FieldOff P t f off] (h : G w0 A L (fun w => runL ro P all Q os (act n (updo ρ d (.pointer (some ⟨b, k + off, none⟩))) ds) w)) :
    G w0 A L (fun w => runL ro P all Q ({ dst := d, op := .fieldAddr t x f, type := ty, pos := pos, after := af, guard := none } :: os) (act n ρ ds) w) :=
  o_val rfl (by intro c e; cases e) (fun w _ _ => by simp only [execOp]; exact run_v (by rw [hx]; exact fo.run b k w)) h
/-- A slice type, its elements' type and cells. -/
class SlTy (P : Program) (t : TypeId) (e : outParam TypeId) (sz : outParam Nat) : Prop where
  ty : P.underlying t = some (.slice e)
  size : ∀ w, (sizeOf e).run P w = .ok sz w
theorem o_index {t e : TypeId} {sz b k len cap i : Nat} {kd : IntKind} {m : Int} (hx : ev n ρ x = .slice (some ⟨b, k, none⟩) len cap) (hy : ev n ρ y = .int kd m) (hm : m = (i : Int)) (hi : i < len) [st : SlTy P t e sz]
    (h : G w0 A L (fun w => runL ro P all Q os (act n (updo ρ d (.pointer (some ⟨b, k + i * sz, none⟩))) ds) w)) :
    G w0 A L (fun w => runL ro P all Q ({ dst := d, op := .indexAddr t x y, type := ty, pos := pos, after := af, guard := none } :: os) (act n ρ ds) w) :=
  o_val rfl (by intro c e; cases e) (fun w _ _ => by
    simp only [execOp]
    refine run_v ?_
    rw [hx, hy]
    have h1 : (0 : Int) ≤ m ∧ m < (len : Int) := by omega
    have h2 : m.toNat = i := by omega
    simp [Instr.indexAt, asIntOf, run_underlying st.ty, h1.1, h1.2, h2, st.size, add_off]) h
theorem o_len {t e : TypeId} {sz : Nat} {a : Option Addr} {len cap : Nat} {tys : Array TypeId} (hx : ev n ρ x = .slice a len cap) (ht : tys = #[t]) [st : SlTy P t e sz]
    (h : G w0 A L (fun w => runL ro P all Q os (act n (updo ρ d (.int .i64 (len : Int))) ds) w)) :
    G w0 A L (fun w => runL ro P all Q ({ dst := d, op := .call { callee := .builtin .len, args := #[x], argTypes := tys }, type := ty, pos := pos, after := af, guard := none } :: os) (act n ρ ds) w) :=
  o_val rfl (by intro c e; cases e) (fun w _ _ => by
    subst ht
    simp only [execOp, resolve, List.map_toArray, List.map_cons, List.map_nil, hx]
    simp [invoke, builtin, Builtin.len_, run_underlying st.ty, goInt]) h
theorem o_max {k : IntKind} {a b : Int} {tys : Array TypeId} (hx : ev n ρ x = .int k a) (hy : ev n ρ y = .int k b)
    (h : G w0 A L (fun w => runL ro P all Q os (act n (updo ρ d (.int k (max a b))) ds) w)) :
    G w0 A L (fun w => runL ro P all Q ({ dst := d, op := .call { callee := .builtin .max, args := #[x, y], argTypes := tys }, type := ty, pos := pos, after := af, guard := none } :: os) (act n ρ ds) w) :=
  o_val rfl (by intro c e; cases e) (fun w _ _ => by
    have e : (if b > a then b else a) = max a b := by omega
    simp only [execOp, resolve, List.map_toArray, List.map_cons, List.map_nil, hx, hy]
    simp [invoke, builtin, Builtin.max_, Builtin.max2, e]) h
theorem o_extract {vs : Array Value} {i : Nat} {v : Value} (hx : ev n ρ x = .tuple vs) (hv : vs[i]? = some v) (h : G w0 A L (fun w => runL ro P all Q os (act n (updo ρ d v) ds) w)) :
    G w0 A L (fun w => runL ro P all Q ({ dst := d, op := .extract x i, type := ty, pos := pos, after := af, guard := none } :: os) (act n ρ ds) w) :=
  o_val rfl (by intro c e; cases e) (fun w _ _ => by simp only [execOp]; exact run_v (by rw [hx]; simp [Instr.extract, hv])) h
theorem o_func {fn : Fn} {first cap : List Operand} (h : G w0 A L (fun w => runL ro P all Q os (act n (updo ρ d (.func fn (first.map (ev n ρ)).toArray (cap.map (ev n ρ)).toArray)) ds) w)) :
    G w0 A L (fun w => runL ro P all Q ({ dst := d, op := .makeFunc fn first.toArray cap.toArray, type := ty, pos := pos, after := af, guard := none } :: os) (act n ρ ds) w) :=
  o_val rfl (by intro c e; cases e) (fun w _ _ => by simp only [execOp, List.map_toArray]; exact run_v rfl) h
theorem o_iface {t : TypeId} {u : Value} (hx : ev n ρ x = u) (hr : ∀ w, (Instr.makeInterface t u).run P w = .ok (.iface t u) w) (h : G w0 A L (fun w => runL ro P all Q os (act n (updo ρ d (.iface t u)) ds) w)) :
    G w0 A L (fun w => runL ro P all Q ({ dst := d, op := .makeInterface t x, type := ty, pos := pos, after := af, guard := none } :: os) (act n ρ ds) w) :=
  o_val rfl (by intro c e; cases e) (fun w _ _ => by simp only [execOp]; exact run_v (by rw [hx]; exact hr w)) h
theorem o_build {t : TypeId} {parts : Array (Nat × Operand)} (v : Value) (hv : ∀ w, (Instr.build t (parts.map fun (i, x) => (i, ev n ρ x))).run P w = .ok v w) (h : G w0 A L (fun w => runL ro P all Q os (act n (updo ρ d v) ds) w)) :
    G w0 A L (fun w => runL ro P all Q ({ dst := d, op := .build t parts, type := ty, pos := pos, after := af, guard := none } :: os) (act n ρ ds) w) :=
  o_val rfl (by intro c e; cases e) (fun w _ _ => by simp only [execOp]; exact run_v (hv w)) h
/-- Any other operation that yields a value whatever the world. -/
theorem o_any {o : Oper} (v : Value) (hg : o.guard = none) (hd : ∀ c, o.op ≠ .defer c) (hv : ∀ w, (execOp (ev n ρ) o).run P w = .ok (.value v) w) (h : G w0 A L (fun w => runL ro P all Q os (act n (updo ρ o.dst v) ds) w)) :
    G w0 A L (fun w => runL ro P all Q (o :: os) (act n ρ ds) w) := o_val hg hd (fun w _ _ => hv w) h

/-! #### Memory -/
/-- A type of one cell that is no aggregate; an aggregate of so many cells. -/
class TyS (P : Program) (t : TypeId) : Prop where
  agg : ∀ w, (isAgg t).run P w = .ok false w
  size : ∀ w, (sizeOf t).run P w = .ok 1 w
class TyA (P : Program) (t : TypeId) (sz : outParam Nat) : Prop where
  agg : ∀ w, (isAgg t).run P w = .ok true w
  size : ∀ w, (sizeOf t).run P w = .ok sz w
class TySz (P : Program) (t : TypeId) (sz : outParam Nat) : Prop where
  size : ∀ w, (sizeOf t).run P w = .ok sz w
instance {P : Program} {t : TypeId} [h : TyS P t] : TySz P t 1 := ⟨h.size⟩
instance {P : Program} {t : TypeId} {sz : Nat} [h : TyA P t sz] : TySz P t sz := ⟨h.size⟩
class TyZ (P : Program) (t : TypeId) (z : outParam Value) : Prop where
  run : ∀ w, (zeroValue t).run P w = .ok z w

/-- The block of cells cs, of element type t. -/
abbrev cellsB (b : Nat) (cs : Array Value) (t : TypeId) : SProp := blk b (.cells cs t (0, 0))
/-- The same, for ever. -/
abbrev pcellsB (b : Nat) (cs : Array Value) (t : TypeId) : SProp := pblk b (.cells cs t (0, 0))

theorem o_load1 {t e : TypeId} {b k : Nat} {cs : Array Value} {v : Value} {fz : Nat × Nat} (hx : ev n ρ x = .pointer (some ⟨b, k, none⟩)) [ts : TyS P t] [hb : HasBlk L b (.cells cs e fz)] (hv : cs[k]? = some v)
    (h : G w0 A L (fun w => runL ro P all Q os (act n (updo ρ d v) ds) w)) :
    G w0 A L (fun w => runL ro P all Q ({ dst := d, op := .load t x, type := ty, pos := pos, after := af, guard := none } :: os) (act n ρ ds) w) :=
  o_val rfl (by intro c e; cases e) (fun w _ hh => by
    simp only [execOp]
    refine run_v ?_
    have hc : w.cell? ⟨b, k, none⟩ = some v := by
      have hbw : w.heap[b]? = some (.cells cs e fz) := hb.sees.right w hh
      simp [World.cell?, hbw, hv]
    rw [hx]
    simp [Instr.loadAt, Instr.sureAddr, loadVar, ts.agg, run_load, hc]) h
theorem run_loadN {t e : TypeId} {b k sz : Nat} {cs : Array Value} {w : World} {fz : Nat × Nat} [ts : TyA P t sz] (hb : w.heap[b]? = some (.cells cs e fz)) (hk : k + sz ≤ cs.size) :
    (loadVar t ⟨b, k, none⟩).run P w = .ok (.agg (cs.extract k (k + sz))) w := by
  have hl : (loadCells ⟨b, k, none⟩ sz).run P w = .ok (cs.extract k (k + sz)) w := by
    have := run_loadCells_list (P := P) w ⟨b, k, none⟩ (cs.extract k (k + sz)).toList (fun j v hv => by
      rw [add_off]
      have hv' : (cs.extract k (k + sz))[j]? = some v := by rw [← Array.getElem?_toList]; exact hv
      rw [Array.getElem?_extract] at hv'
      split at hv'
      · simp [World.cell?, hb, hv']
      · cases hv')
    have hlen : (cs.extract k (k + sz)).toList.length = sz := by simp; omega
    rw [hlen] at this
    exact this
  simp [loadVar, ts.agg, ts.size, hl]
theorem o_loadN {t e : TypeId} {b k sz : Nat} {cs : Array Value} {v : Value} {fz : Nat × Nat} (hx : ev n ρ x = .pointer (some ⟨b, k, none⟩)) [ts : TyA P t sz] [hb : HasBlk L b (.cells cs e fz)] (hk : Nat.ble (k + sz) cs.size = true) (hv : .agg (cs.extract k (k + sz)) = v)
    (h : G w0 A L (fun w => runL ro P all Q os (act n (updo ρ d v) ds) w)) :
    G w0 A L (fun w => runL ro P all Q ({ dst := d, op := .load t x, type := ty, pos := pos, after := af, guard := none } :: os) (act n ρ ds) w) :=
  o_val rfl (by intro c e; cases e) (fun w _ hh => by
    simp only [execOp]
    refine run_v ?_
    have hbw : w.heap[b]? = some (.cells cs e fz) := hb.sees.right w hh
    rw [hx, ← hv]
    simp [Instr.loadAt, Instr.sureAddr, run_loadN hbw (Nat.le_of_ble_eq_true hk)]) h
/-- A load of what a fact on the heap tells. -/
theorem o_loadv {t : TypeId} {a : Addr} {v : Value} (hx : ev n ρ x = .pointer (some a)) (hv : ∀ w, holds (star A (sl L)) w → (loadVar t a).run P w = .ok v w)
    (h : G w0 A L (fun w => runL ro P all Q os (act n (updo ρ d v) ds) w)) :
    G w0 A L (fun w => runL ro P all Q ({ dst := d, op := .load t x, type := ty, pos := pos, after := af, guard := none } :: os) (act n ρ ds) w) :=
  o_val rfl (by intro c e; cases e) (fun w _ hh => by
    simp only [execOp]
    refine run_v ?_
    rw [hx]
    simp [Instr.loadAt, Instr.sureAddr, hv w hh]) h

/-- What a block's cells are behind a store. -/
def sto (cs : Array Value) (k : Nat) (vs : Array Value) : Array Value := (cs.toList.take k ++ vs.toList ++ cs.toList.drop (k + vs.toList.length)).toArray
theorem std_setRow (w : World) (b : Nat) (cs : Array Value) : Std w (w.setRow b cs) := ⟨rfl, rfl, rfl, by simp [World.setRow]⟩
theorem hp_setRow_ne (w : World) {b k : Nat} (cs : Array Value) (h : k ≠ b) : hp (w.setRow b cs) k = hp w k := by
  simp [hp, World.setRow, Array.getElem?_modify, Ne.symm h]
theorem o_store {t e : TypeId} {b k sz : Nat} {cs : Array Value} {v : Value} {f : Obj → List SProp} (hx : ev n ρ x = .pointer (some ⟨b, k, none⟩)) (hy : ev n ρ y = v) [rb : RepBlk L b (.cells cs e (0, 0)) f]
    [ts : TySz P t sz] (hsz : Nat.beq v.cells.size sz = true) (h1 : v.cells.toList.all Value.oneCell' = true) (hk : Nat.ble (k + v.cells.size) cs.size = true)
    (h : G w0 A (f (.cells (sto cs k v.cells) e (0, 0))) (fun w => runL ro P all Q os (act n (updo ρ d undef) ds) w)) :
    G w0 A L (fun w => runL ro P all Q ({ dst := d, op := .store t x y, type := ty, pos := pos, after := af, guard := none } :: os) (act n ρ ds) w) := by
  refine o_run rfl fun w hw hh => ?_
  refine ⟨fun _ _ => trivial, ?_⟩
  rw [Oper.semAt_eq _ _ _ (by intro c e; cases e), act_eval]
  have hbw : w.heap[b]? = some (.cells cs e (0, 0)) := rb.sees.right w hh
  have hst := run_storeCells_at (P := P) b k e v.cells.toList 0 cs w hbw (by simpa using Nat.le_of_ble_eq_true hk) (List.all_eq_true.1 h1)
  have hrun : (execOp (ev n ρ) { dst := d, op := .store t x y, type := ty, pos := pos, after := af, guard := none }).run P w = .ok .skip (w.setRow b (sto cs k v.cells)) := by
    simp only [execOp, hx, hy]
    have hsz' : v.cells.size = sz := Nat.eq_of_beq_eq_true hsz
    simp [Instr.storeAt, Instr.sureAddr, storeVar, ts.size, hsz', hst, sto]
  rw [hrun]
  show runL ro P all Q os ((act n ρ ds).put d undef) _
  rw [act_put]
  refine h _ (hw.trans (std_setRow _ _ _)) ?_
  exact hh.rep (setRow_heap w b cs _ e _ hbw) (fun j hj => hp_setRow_ne w _ hj)
theorem o_alloc {t : TypeId} {z : Value} [tz : TyZ P t z] (h : ∀ b, G w0 A (cellsB b z.cells t :: L) (fun w => runL ro P all Q os (act n (updo ρ d (.pointer (some ⟨b, 0, none⟩))) ds) w)) :
    G w0 A L (fun w => runL ro P all Q ({ dst := d, op := .alloc t, type := ty, pos := pos, after := af, guard := none } :: os) (act n ρ ds) w) := by
  refine o_run rfl fun w hw hh => ?_
  refine ⟨fun _ _ => trivial, ?_⟩
  rw [Oper.semAt_eq _ _ _ (by intro c e; cases e), act_eval]
  have hrun : (execOp (ev n ρ) { dst := d, op := .alloc t, type := ty, pos := pos, after := af, guard := none }).run P w = .ok (.value (.pointer (some ⟨w.heap.size, 0, none⟩))) (w.alloc (.cells z.cells t)) := by
    simp only [execOp]
    simp [Instr.alloc, tz.run, newVar, newRow]
  rw [hrun]
  show runL ro P all Q os ((act n ρ ds).put d _) _
  rw [act_put]
  exact h w.heap.size _ (hw.trans (.alloc _ _)) ((hh.alloc _).ent (Ent.swap _ _ _))
theorem o_box {t : TypeId} {v : Value} (hx : ev n ρ x = v) (h : ∀ b, G w0 A (cellsB b v.cells t :: L) (fun w => runL ro P all Q os (act n (updo ρ d (.pointer (some ⟨b, 0, none⟩))) ds) w)) :
    G w0 A L (fun w => runL ro P all Q ({ dst := d, op := .box t x, type := ty, pos := pos, after := af, guard := none } :: os) (act n ρ ds) w) := by
  refine o_run rfl fun w hw hh => ?_
  refine ⟨fun _ _ => trivial, ?_⟩
  rw [Oper.semAt_eq _ _ _ (by intro c e; cases e), act_eval]
  have hrun : (execOp (ev n ρ) { dst := d, op := .box t x, type := ty, pos := pos, after := af, guard := none }).run P w = .ok (.value (.pointer (some ⟨w.heap.size, 0, none⟩))) (w.alloc (.cells v.cells t)) := by
    simp only [execOp, hx]
    simp [Instr.box, newVar, newRow]
  rw [hrun]
  show runL ro P all Q os ((act n ρ ds).put d _) _
  rw [act_put]
  exact h w.heap.size _ (hw.trans (.alloc _ _)) ((hh.alloc _).ent (Ent.swap _ _ _))
theorem o_slice_lit {t e : TypeId} {len : Nat} {parts : Array (Nat × Operand)} (cs : Array Value) (hr : ∀ w, (Instr.buildSlice t len (parts.map fun (i, x) => (i, ev n ρ x))).run P w = .ok (.slice (some ⟨w.heap.size, 0, none⟩) len len) (w.alloc (.cells cs e)))
    (h : ∀ b, G w0 A (cellsB b cs e :: L) (fun w => runL ro P all Q os (act n (updo ρ d (.slice (some ⟨b, 0, none⟩) len len)) ds) w)) :
    G w0 A L (fun w => runL ro P all Q ({ dst := d, op := .buildSlice t len parts, type := ty, pos := pos, after := af, guard := none } :: os) (act n ρ ds) w) := by
  refine o_run rfl fun w hw hh => ?_
  refine ⟨fun _ _ => trivial, ?_⟩
  rw [Oper.semAt_eq _ _ _ (by intro c e; cases e), act_eval]
  have hrun : (execOp (ev n ρ) { dst := d, op := .buildSlice t len parts, type := ty, pos := pos, after := af, guard := none }).run P w = .ok (.value (.slice (some ⟨w.heap.size, 0, none⟩) len len)) (w.alloc (.cells cs e)) := by
    simp only [execOp]
    simp only [Sem.run_bind, hr w]
    rfl
  rw [hrun]
  show runL ro P all Q os ((act n ρ ds).put d _) _
  rw [act_put]
  exact h w.heap.size _ (hw.trans (.alloc _ _)) ((hh.alloc _).ent (Ent.swap _ _ _))

/-! ### Calls -/
/-- The contract of a call: what it takes, and how it may end. -/
def Ctr (P : Program) (f : FuncId) (args : List Value) (L : List SProp) (R : Value → List SProp → Prop) : Prop :=
  ∀ (w : World) (F : SProp), holds (star F (sl L)) w → Calls P f args.toArray w fun e w' => ∃ v L', e = .returned v ∧ R v L' ∧ holds (star F (sl L')) w' ∧ Std w w'
theorem Ctr.mono {f : FuncId} {args : List Value} {R R' : Value → List SProp → Prop} (h : Ctr P f args L R) (k : ∀ v M, R v M → R' v M) : Ctr P f args L R' :=
  fun w F hh => (h w F hh).mono fun _ _ ⟨v, M, e, r, x, s⟩ => ⟨v, M, e, k v M r, x, s⟩
theorem Ctr.pre {f : FuncId} {args : List Value} {R : Value → List SProp → Prop} {K : List SProp} (h : Ctr P f args K R) (e : Ent (sl L) (sl K)) : Ctr P f args L R :=
  fun w F hh => h w F (hh.ent ((Ent.refl F).star e))

theorem run_call {f : FuncId} {args : List Operand} {tys : Array TypeId} {vs cap : List Value} {cal : Operand} {w : World} (hf : ev n ρ cal = .func (.func f) #[] cap.toArray) (ha : args.map (ev n ρ) = vs) (en : Enters P f) :
    (execOp (ev n ρ) { dst := d, op := .call { callee := .value cal, args := args.toArray, argTypes := tys }, type := ty, pos := pos, after := af, guard := none }).run P w = .ok (.enter f (vs ++ cap).toArray) w := by
  simp only [execOp, resolve, Deferred.ofValue, hf, List.map_toArray, ha]
  simp [invoke, en _ _]
theorem o_call_gen {f : FuncId} {vs : List Value} {o : Oper} {K M : List SProp} {R : Value → List SProp → Prop} (hg : o.guard = none) (hd : ∀ c, o.op ≠ .defer c)
    (hrun : ∀ w, (execOp (ev n ρ) o).run P w = .ok (.enter f vs.toArray) w) (sp : Ctr P f vs K R) [t : Take L K M]
    (h : ∀ v L', R v L' → G w0 A (L' ++ M) (fun w => runL ro P all Q os (act n (updo ρ o.dst v) ds) w)) :
    G w0 A L (fun w => runL ro P all Q (o :: os) (act n ρ ds) w) := by
  refine o_run hg fun w hw hh => ?_
  refine ⟨fun _ _ => trivial, ?_⟩
  rw [Oper.semAt_eq _ _ _ hd, act_eval, hrun w]
  refine ⟨fun h => (by cases h), ?_⟩
  refine callsWF.2 ((sp w (star A (sl M)) ?_).mono ?_)
  · refine hh.ent ?_
    refine ((Ent.refl A).star ((sl_perm t.perm).trans (sl_append_to K M))).trans ?_
    exact ((Ent.refl A).star (Ent.comm _ _)).trans (Ent.assoc' _ _ _)
  · rintro e w' ⟨v, L', rfl, r, x, s⟩
    show runL ro P all Q os ((act n ρ ds).put o.dst v) w'
    rw [act_put]
    refine h v L' r w' (hw.trans s) (x.ent ?_)
    exact (Ent.assoc _ _ _).trans ((Ent.refl A).star ((Ent.comm _ _).trans (sl_append_of _ _)))
/-- A call of function f enters it. -/
class En (P : Program) (f : FuncId) : Prop where
  en : Enters P f
theorem o_callc {f : FuncId} {args : List Operand} {tys : Array TypeId} {vs cap ws : List Value} {cal : Operand} {K M : List SProp} {R : Value → List SProp → Prop} [en : En P f] (sp : Ctr P f ws K R)
    (hf : ev n ρ cal = .func (.func f) #[] cap.toArray) (ha : args.map (ev n ρ) = vs) (hw : vs ++ cap = ws) [t : Take L K M]
    (h : ∀ v L', R v L' → G w0 A (L' ++ M) (fun w => runL ro P all Q os (act n (updo ρ d v) ds) w)) :
    G w0 A L (fun w => runL ro P all Q ({ dst := d, op := .call { callee := .value cal, args := args.toArray, argTypes := tys }, type := ty, pos := pos, after := af, guard := none } :: os) (act n ρ ds) w) :=
  o_call_gen rfl (by intro c e; cases e) (fun _ => by rw [← hw]; exact run_call hf ha en.en) sp h
theorem o_call {f : FuncId} {args : List Operand} {tys : Array TypeId} {vs : List Value} {cal : Operand} {K M : List SProp} {R : Value → List SProp → Prop} [en : En P f] (sp : Ctr P f vs K R)
    (hf : ev n ρ cal = .func (.func f) #[] #[]) (ha : args.map (ev n ρ) = vs) [t : Take L K M]
    (h : ∀ v L', R v L' → G w0 A (L' ++ M) (fun w => runL ro P all Q os (act n (updo ρ d v) ds) w)) :
    G w0 A L (fun w => runL ro P all Q ({ dst := d, op := .call { callee := .value cal, args := args.toArray, argTypes := tys }, type := ty, pos := pos, after := af, guard := none } :: os) (act n ρ ds) w) :=
  o_callc (cap := []) sp hf ha (by simp) h
/-- A call by a contract that any list will do for that shows what it reads: it gets all of it. -/
theorem o_callR {f : FuncId} {args : List Operand} {tys : Array TypeId} {vs : List Value} {cal : Operand} {R : Value → List SProp → Prop} [en : En P f] (sp : Ctr P f vs L R)
    (hf : ev n ρ cal = .func (.func f) #[] #[]) (ha : args.map (ev n ρ) = vs)
    (h : ∀ v L', R v L' → G w0 A L' (fun w => runL ro P all Q os (act n (updo ρ d v) ds) w)) :
    G w0 A L (fun w => runL ro P all Q ({ dst := d, op := .call { callee := .value cal, args := args.toArray, argTypes := tys }, type := ty, pos := pos, after := af, guard := none } :: os) (act n ρ ds) w) := by
  refine o_call (M := []) sp hf ha (t := ⟨by simp⟩) fun v L' r => ?_
  rw [List.append_nil]
  exact h v L' r
/-- A method called on an interface value whose make is known. -/
theorem o_invoke {f : FuncId} {args : List Operand} {tys : Array TypeId} {vs : List Value} {x : Operand} {name : String} {t : TypeId} {u : Value} {K M : List SProp} {R : Value → List SProp → Prop} (sp : Ctr P f (u :: vs) K R)
    (hx : ev n ρ x = .iface t u) (ha : args.map (ev n ρ) = vs) (hm : ∀ w, (callMethod (.iface t u) name vs.toArray).run P w = .ok (.enter f (u :: vs).toArray) w) [tk : Take L K M]
    (h : ∀ v L', R v L' → G w0 A (L' ++ M) (fun w => runL ro P all Q os (act n (updo ρ d v) ds) w)) :
    G w0 A L (fun w => runL ro P all Q ({ dst := d, op := .call { callee := .invoke x name, args := args.toArray, argTypes := tys }, type := ty, pos := pos, after := af, guard := none } :: os) (act n ρ ds) w) :=
  o_call_gen rfl (by intro c e; cases e) (fun w => by
    simp only [execOp, resolve, hx, List.map_toArray, ha]
    simp [invoke, hm]) sp h
end
end Go.Sl
