/- Parts of a proof, in order. -/
import Derived.Test.YtdpbjoldgiikkaaZT1

set_option linter.unusedSimpArgs false
set_option linter.unusedVariables false
/- Comparisons as linear orders, plainly; and the program's comparisons. -/
namespace Go.Proofs.Ytdpbjoldgiikkaa
open Go Go.Sl
attribute [local irreducible] Code.wpIn roundPost bodyPostM runL Ret Meets Begin

/-- A comparison that orders. -/
structure LinCmp {α : Type} (f : α → α → Int) : Prop where
  swap : ∀ a b, f b a = - f a b
  trans : ∀ a b c, f a b < 0 → f b c < 0 → f a c < 0
  eqv : ∀ a b c, f a b = 0 → f a c = f b c
theorem LinCmp.refl {α : Type} {f : α → α → Int} (h : LinCmp f) (a : α) : f a a = 0 := by have := h.swap a a; omega
theorem LinCmp.eqv' {α : Type} {f : α → α → Int} (h : LinCmp f) (a b c : α) (e : f a b = 0) : f c a = f c b := by
  rw [h.swap a c, h.swap b c, h.eqv a b c e]
theorem LinCmp.pull {α β : Type} {f : α → α → Int} (h : LinCmp f) (g : β → α) : LinCmp (fun x y => f (g x) (g y)) :=
  ⟨fun a b => h.swap _ _, fun a b c => h.trans _ _ _, fun a b c => h.eqv _ _ _⟩
def lex {α : Type} (f g : α → α → Int) (a b : α) : Int := if f a b = 0 then g a b else f a b
theorem LinCmp.lex {α : Type} {f g : α → α → Int} (hf : LinCmp f) (hg : LinCmp g) : LinCmp (lex f g) := by
  refine ⟨fun a b => ?_, fun a b c h1 h2 => ?_, fun a b c h => ?_⟩
  · unfold Proofs.Ytdpbjoldgiikkaa.lex
    rw [hf.swap a b, hg.swap a b]
    by_cases e : f a b = 0
    · simp [e]
    · rw [if_neg e, if_neg (by omega)]
  · unfold Proofs.Ytdpbjoldgiikkaa.lex at *
    by_cases e1 : f a b = 0
    · rw [if_pos e1] at h1
      rw [hf.eqv a b c e1]
      by_cases e2 : f b c = 0
      · rw [if_pos e2] at h2 ⊢; exact hg.trans a b c h1 h2
      · rw [if_neg e2] at h2 ⊢; exact h2
    · rw [if_neg e1] at h1
      by_cases e2 : f b c = 0
      · have : f a c = f a b := (hf.eqv' b c a e2).symm
        rw [this, if_neg e1]; exact h1
      · rw [if_neg e2] at h2
        have := hf.trans a b c h1 h2
        rw [if_neg (by omega)]; exact this
  · unfold Proofs.Ytdpbjoldgiikkaa.lex at *
    by_cases e1 : f a b = 0
    · rw [if_pos e1] at h
      rw [hf.eqv a b c e1, hg.eqv a b c h]
    · rw [if_neg e1] at h; exact absurd h e1
def cmpI (a b : Int) : Int := if a < b then -1 else if b < a then 1 else 0
theorem linI : LinCmp cmpI := by
  refine ⟨fun a b => ?_, fun a b c => ?_, fun a b c => ?_⟩ <;> unfold cmpI <;> (repeat' split) <;> omega
theorem less_cons (x y : UInt8) (a b : List UInt8) : Op.bytesLess (x :: a) (y :: b) = true ↔ x.toNat < y.toNat ∨ (x.toNat = y.toNat ∧ Op.bytesLess a b = true) := by
  simp only [Op.bytesLess, Bool.or_eq_true, Bool.and_eq_true, decide_eq_true_eq, beq_iff_eq, UInt8.lt_iff_toNat_lt, ← UInt8.toNat_inj]
theorem less_asym : ∀ a b : List UInt8, Op.bytesLess a b = true → ¬ Op.bytesLess b a = true
  | [], [], h => by simp [Op.bytesLess] at h
  | [], _ :: _, _ => by simp [Op.bytesLess]
  | _ :: _, [], h => by simp [Op.bytesLess] at h
  | x :: a, y :: b, h => by
    rw [less_cons] at h ⊢
    have ih := less_asym a b
    rintro (h2 | ⟨h2, h3⟩)
    · rcases h with h | ⟨h, _⟩ <;> omega
    · rcases h with h | ⟨_, h⟩
      · omega
      · exact ih h h3
theorem less_trans : ∀ a b c : List UInt8, Op.bytesLess a b = true → Op.bytesLess b c = true → Op.bytesLess a c = true
  | _, _, [], _, h => by cases ‹List UInt8› <;> simp [Op.bytesLess] at h
  | _, [], _ :: _, h, _ => by cases ‹List UInt8› <;> simp [Op.bytesLess] at h
  | [], _ :: _, _ :: _, _, _ => by simp [Op.bytesLess]
  | x :: a, y :: b, z :: c, h1, h2 => by
    rw [less_cons] at h1 h2 ⊢
    rcases h1 with h1 | ⟨h1, h1'⟩ <;> rcases h2 with h2 | ⟨h2, h2'⟩
    · left; omega
    · left; omega
    · left; omega
    · right; exact ⟨by omega, less_trans a b c h1' h2'⟩
theorem less_total : ∀ a b : List UInt8, ¬ Op.bytesLess a b = true → ¬ Op.bytesLess b a = true → a = b
  | [], [], _, _ => rfl
  | [], _ :: _, h, _ => by simp [Op.bytesLess] at h
  | _ :: _, [], _, h => by simp [Op.bytesLess] at h
  | x :: a, y :: b, h1, h2 => by
    rw [less_cons] at h1 h2
    have hxy : x.toNat = y.toNat := by
      have : ¬ x.toNat < y.toNat := fun h => h1 (.inl h)
      have : ¬ y.toNat < x.toNat := fun h => h2 (.inl h)
      omega
    rw [UInt8.toNat_inj.1 hxy, less_total a b (fun h => h1 (.inr ⟨hxy, h⟩)) (fun h => h2 (.inr ⟨hxy.symm, h⟩))]
def cmpS (a b : ByteArray) : Int := if Op.bytesLess a.toList b.toList = true then -1 else if Op.bytesLess b.toList a.toList = true then 1 else 0
theorem cmpS_zero {a b : ByteArray} (h : cmpS a b = 0) : a = b := by
  unfold cmpS at h
  by_cases h1 : Op.bytesLess a.toList b.toList = true
  · rw [if_pos h1] at h; omega
  · rw [if_neg h1] at h
    by_cases h2 : Op.bytesLess b.toList a.toList = true
    · rw [if_pos h2] at h; omega
    · exact (toList_inj a b).1 (less_total _ _ h1 h2)
theorem linS : LinCmp cmpS := by
  refine ⟨fun a b => ?_, fun a b c h1 h2 => ?_, fun a b c h => by rw [cmpS_zero h]⟩
  · unfold cmpS
    have := less_asym a.toList b.toList
    by_cases h1 : Op.bytesLess a.toList b.toList = true
    · simp [h1, this h1]
    · by_cases h2 : Op.bytesLess b.toList a.toList = true <;> simp [h1, h2]
  · have key : ∀ x y, cmpS x y < 0 ↔ Op.bytesLess x.toList y.toList = true := fun x y => by
      unfold cmpS
      by_cases h1 : Op.bytesLess x.toList y.toList = true
      · simp [h1]
      · by_cases h2 : Op.bytesLess y.toList x.toList = true <;> simp [h1, h2]
    rw [key] at h1 h2 ⊢
    exact less_trans _ _ _ h1 h2
def SymD.cmp : SymD → SymD → Int := lex (fun a b => cmpI a.kind b.kind) (lex (fun a b => cmpS a.text b.text) (fun a b => cmpI a.n b.n))
theorem linSym : LinCmp SymD.cmp := (linI.pull SymD.kind).lex ((linS.pull SymD.text).lex (linI.pull SymD.n))
theorem cmpI_zero {a b : Int} (h : cmpI a b = 0) : a = b := by unfold cmpI at h; (repeat' split at h) <;> omega
theorem SymD.cmp_zero {a b : SymD} (h : a.cmp b = 0) : a = b := by
  obtain ⟨k, t, n⟩ := a
  obtain ⟨k', t', n'⟩ := b
  simp only [SymD.cmp, lex] at h
  by_cases h1 : cmpI k k' = 0
  · rw [if_pos h1] at h
    by_cases h2 : cmpS t t' = 0
    · rw [if_pos h2] at h
      rw [cmpI_zero h1, cmpS_zero h2, cmpI_zero h]
    · rw [if_neg h2] at h; exact absurd h h2
  · rw [if_neg h1] at h; exact absurd h h1

/-! ### The program's comparisons -/
theorem o_sgtr {w0 : World} {A : SProp} {L : List SProp} {ro : Option Nat} {P : Program} {Q : Exit → Act → World → Prop} {all : Array Oper} {os : List Oper} {n : Nat} {ρ : Nat → Value} {ds : List Nat} {d : Option Tmp} {ty xt yt : TypeId} {pos : String} {af : Array Edge} {x y : Operand}
    {s t : ByteArray} (hx : ev n ρ x = .string s) (hy : ev n ρ y = .string t) (h : G w0 A L (fun w => runL ro P all Q os (act n (updo ρ d (.bool (Op.bytesLess t.toList s.toList))) ds) w)) :
    G w0 A L (fun w => runL ro P all Q ({ dst := d, op := .binOp .gtr xt x y yt, type := ty, pos := pos, after := af, guard := none } :: os) (act n ρ ds) w) := by
  refine o_val (v := .bool (Op.bytesLess t.toList s.toList)) rfl (by intro c e; cases e) (fun w _ _ => run_bin (by rw [hx, hy]; rfl) ?_) h
  rw [hx, hy]
  have : Op.bytesLess t.toList s.toList = (!(Op.bytesLess s.toList t.toList || (s.toList == t.toList))) := by
    cases h1 : Op.bytesLess s.toList t.toList
    · cases h2 : Op.bytesLess t.toList s.toList
      · have := less_total s.toList t.toList (by simp [h1]) (by simp [h2]); simp [this]
      · have : s.toList ≠ t.toList := fun e => by rw [e] at h2; exact less_asym _ _ h2 h2
        simp [this]
    · have := less_asym _ _ h1
      simp only [Bool.true_or, Bool.not_true]
      simpa using this
  rw [this]
  rfl
theorem isNaNI_spec (a : Int) : Ctr Try.prog 114 [.int .i64 a] [] (fun v M => v = .bool false ∧ M = []) := by
  refine spec_of Try.func114 rfl Try.ntmps114 rfl fun w0 F => ?_
  repeat (first | refine g_endt ?_ | refine g_end ?_ | refine g_then ?_ | refine g_in_normal ?_ | refine g_then_ret ?_ | refine g_in_ret ?_ | refine g_then_exit ?_ | refine g_in_exit rfl ?_ | refine g_in_exit_ne (by decide) ?_ | refine g_seq ?_ | refine g_region ?_ | refine g_block ?_ | refine g_ret ?_ | refine g_return_n ?_ | refine g_exit ?_ | refine g_skip ?_)
  refine o_assign ?_
  first | refine g_endt ?_ | refine g_end ?_
  repeat (first | refine g_endt ?_ | refine g_end ?_ | refine g_then ?_ | refine g_in_normal ?_ | refine g_then_ret ?_ | refine g_in_ret ?_ | refine g_then_exit ?_ | refine g_in_exit rfl ?_ | refine g_in_exit_ne (by decide) ?_ | refine g_seq ?_ | refine g_region ?_ | refine g_block ?_ | refine g_ret ?_ | refine g_return_n ?_ | refine g_exit ?_ | refine g_skip ?_)
  refine o_move ?_
  refine o_move ?_
  refine o_neq rfl rfl ?_
  refine o_assign ?_
  first | refine g_endt ?_ | refine g_end ?_
  repeat (first | refine g_endt ?_ | refine g_end ?_ | refine g_then ?_ | refine g_in_normal ?_ | refine g_then_ret ?_ | refine g_in_ret ?_ | refine g_then_exit ?_ | refine g_in_exit rfl ?_ | refine g_in_exit_ne (by decide) ?_ | refine g_seq ?_ | refine g_region ?_ | refine g_block ?_ | refine g_ret ?_ | refine g_return_n ?_ | refine g_exit ?_ | refine g_skip ?_)
  exact ret1 rfl (resT (v := .bool (a != a)) rfl) ⟨by simp, rfl⟩
theorem isNaNS_spec (a : ByteArray) : Ctr Try.prog 115 [.string a] [] (fun v M => v = .bool false ∧ M = []) := by
  refine spec_of Try.func115 rfl Try.ntmps115 rfl fun w0 F => ?_
  repeat (first | refine g_endt ?_ | refine g_end ?_ | refine g_then ?_ | refine g_in_normal ?_ | refine g_then_ret ?_ | refine g_in_ret ?_ | refine g_then_exit ?_ | refine g_in_exit rfl ?_ | refine g_in_exit_ne (by decide) ?_ | refine g_seq ?_ | refine g_region ?_ | refine g_block ?_ | refine g_ret ?_ | refine g_return_n ?_ | refine g_exit ?_ | refine g_skip ?_)
  refine o_assign ?_
  first | refine g_endt ?_ | refine g_end ?_
  repeat (first | refine g_endt ?_ | refine g_end ?_ | refine g_then ?_ | refine g_in_normal ?_ | refine g_then_ret ?_ | refine g_in_ret ?_ | refine g_then_exit ?_ | refine g_in_exit rfl ?_ | refine g_in_exit_ne (by decide) ?_ | refine g_seq ?_ | refine g_region ?_ | refine g_block ?_ | refine g_ret ?_ | refine g_return_n ?_ | refine g_exit ?_ | refine g_skip ?_)
  refine o_move ?_
  refine o_move ?_
  refine o_sneq rfl rfl ?_
  refine o_assign ?_
  first | refine g_endt ?_ | refine g_end ?_
  repeat (first | refine g_endt ?_ | refine g_end ?_ | refine g_then ?_ | refine g_in_normal ?_ | refine g_then_ret ?_ | refine g_in_ret ?_ | refine g_then_exit ?_ | refine g_in_exit rfl ?_ | refine g_in_exit_ne (by decide) ?_ | refine g_seq ?_ | refine g_region ?_ | refine g_block ?_ | refine g_ret ?_ | refine g_return_n ?_ | refine g_exit ?_ | refine g_skip ?_)
  exact ret1 rfl (resT (v := .bool (!(a.toList == a.toList))) rfl) ⟨by simp, rfl⟩
theorem CompareI_spec (a b : Int) : Ctr Try.prog 112 [.int .i64 a, .int .i64 b] [] (fun v M => v = .int .i64 (cmpI a b) ∧ M = []) := by
  refine spec_of Try.func112 rfl Try.ntmps112 rfl fun w0 F => ?_
  repeat (first | refine g_endt ?_ | refine g_end ?_ | refine g_then ?_ | refine g_in_normal ?_ | refine g_then_ret ?_ | refine g_in_ret ?_ | refine g_then_exit ?_ | refine g_in_exit rfl ?_ | refine g_in_exit_ne (by decide) ?_ | refine g_seq ?_ | refine g_region ?_ | refine g_block ?_ | refine g_ret ?_ | refine g_return_n ?_ | refine g_exit ?_ | refine g_skip ?_)
  refine o_assign ?_
  first | refine g_endt ?_ | refine g_end ?_
  repeat (first | refine g_endt ?_ | refine g_end ?_ | refine g_then ?_ | refine g_in_normal ?_ | refine g_then_ret ?_ | refine g_in_ret ?_ | refine g_then_exit ?_ | refine g_in_exit rfl ?_ | refine g_in_exit_ne (by decide) ?_ | refine g_seq ?_ | refine g_region ?_ | refine g_block ?_ | refine g_ret ?_ | refine g_return_n ?_ | refine g_exit ?_ | refine g_skip ?_)
  refine o_move ?_
  refine o_call (isNaNI_spec a) rfl rfl ?_
  rintro _ _ ⟨rfl, rfl⟩
  refine o_assign ?_
  first | refine g_endt ?_ | refine g_end ?_
  repeat (first | refine g_endt ?_ | refine g_end ?_ | refine g_then ?_ | refine g_in_normal ?_ | refine g_then_ret ?_ | refine g_in_ret ?_ | refine g_then_exit ?_ | refine g_in_exit rfl ?_ | refine g_in_exit_ne (by decide) ?_ | refine g_seq ?_ | refine g_region ?_ | refine g_block ?_ | refine g_ret ?_ | refine g_return_n ?_ | refine g_exit ?_ | refine g_skip ?_)
  refine o_move ?_
  refine o_call (isNaNI_spec b) rfl rfl ?_
  rintro _ _ ⟨rfl, rfl⟩
  refine o_assign ?_
  first | refine g_endt ?_ | refine g_end ?_
  repeat (first | refine g_endt ?_ | refine g_end ?_ | refine g_then ?_ | refine g_in_normal ?_ | refine g_then_ret ?_ | refine g_in_ret ?_ | refine g_then_exit ?_ | refine g_in_exit rfl ?_ | refine g_in_exit_ne (by decide) ?_ | refine g_seq ?_ | refine g_region ?_ | refine g_block ?_ | refine g_ret ?_ | refine g_return_n ?_ | refine g_exit ?_ | refine g_skip ?_)
  refine o_move ?_
  first | refine g_endt ?_ | refine g_end ?_
  first | refine g_seq (g_cond_f rfl (rfl) ?_) | refine g_cond_f rfl (rfl) ?_
  repeat (first | refine g_endt ?_ | refine g_end ?_ | refine g_then ?_ | refine g_in_normal ?_ | refine g_then_ret ?_ | refine g_in_ret ?_ | refine g_then_exit ?_ | refine g_in_exit rfl ?_ | refine g_in_exit_ne (by decide) ?_ | refine g_seq ?_ | refine g_region ?_ | refine g_block ?_ | refine g_ret ?_ | refine g_return_n ?_ | refine g_exit ?_ | refine g_skip ?_)
  refine o_move ?_
  first | refine g_endt ?_ | refine g_end ?_
  first | refine g_seq (g_cond_f rfl (rfl) ?_) | refine g_cond_f rfl (rfl) ?_
  repeat (first | refine g_endt ?_ | refine g_end ?_ | refine g_then ?_ | refine g_in_normal ?_ | refine g_then_ret ?_ | refine g_in_ret ?_ | refine g_then_exit ?_ | refine g_in_exit rfl ?_ | refine g_in_exit_ne (by decide) ?_ | refine g_seq ?_ | refine g_region ?_ | refine g_block ?_ | refine g_ret ?_ | refine g_return_n ?_ | refine g_exit ?_ | refine g_skip ?_)
  refine o_move ?_
  refine o_move ?_
  refine o_lss rfl rfl ?_
  first | refine g_endt ?_ | refine g_end ?_
  by_cases h1 : a < b
  · first | refine g_seq (g_cond_t rfl (by simpa using h1) ?_) | refine g_cond_t rfl (by simpa using h1) ?_
    repeat (first | refine g_endt ?_ | refine g_end ?_ | refine g_then ?_ | refine g_in_normal ?_ | refine g_then_ret ?_ | refine g_in_ret ?_ | refine g_then_exit ?_ | refine g_in_exit rfl ?_ | refine g_in_exit_ne (by decide) ?_ | refine g_seq ?_ | refine g_region ?_ | refine g_block ?_ | refine g_ret ?_ | refine g_return_n ?_ | refine g_exit ?_ | refine g_skip ?_)
    refine o_assign ?_
    first | refine g_endt ?_ | refine g_end ?_
    repeat (first | refine g_endt ?_ | refine g_end ?_ | refine g_then ?_ | refine g_in_normal ?_ | refine g_then_ret ?_ | refine g_in_ret ?_ | refine g_then_exit ?_ | refine g_in_exit rfl ?_ | refine g_in_exit_ne (by decide) ?_ | refine g_seq ?_ | refine g_region ?_ | refine g_block ?_ | refine g_ret ?_ | refine g_return_n ?_ | refine g_exit ?_ | refine g_skip ?_)
    exact ret1 rfl (resT (v := .int .i64 (-1)) rfl) ⟨by simp [cmpI, h1], rfl⟩
  · first | refine g_seq (g_cond_f rfl (by simpa using h1) ?_) | refine g_cond_f rfl (by simpa using h1) ?_
    repeat (first | refine g_endt ?_ | refine g_end ?_ | refine g_then ?_ | refine g_in_normal ?_ | refine g_then_ret ?_ | refine g_in_ret ?_ | refine g_then_exit ?_ | refine g_in_exit rfl ?_ | refine g_in_exit_ne (by decide) ?_ | refine g_seq ?_ | refine g_region ?_ | refine g_block ?_ | refine g_ret ?_ | refine g_return_n ?_ | refine g_exit ?_ | refine g_skip ?_)
    refine o_move ?_
    refine o_move ?_
    refine o_gtr rfl rfl ?_
    first | refine g_endt ?_ | refine g_end ?_
    by_cases h2 : b < a
    · first | refine g_seq (g_cond_t rfl (by simpa using h2) ?_) | refine g_cond_t rfl (by simpa using h2) ?_
      repeat (first | refine g_endt ?_ | refine g_end ?_ | refine g_then ?_ | refine g_in_normal ?_ | refine g_then_ret ?_ | refine g_in_ret ?_ | refine g_then_exit ?_ | refine g_in_exit rfl ?_ | refine g_in_exit_ne (by decide) ?_ | refine g_seq ?_ | refine g_region ?_ | refine g_block ?_ | refine g_ret ?_ | refine g_return_n ?_ | refine g_exit ?_ | refine g_skip ?_)
      refine o_assign ?_
      first | refine g_endt ?_ | refine g_end ?_
      repeat (first | refine g_endt ?_ | refine g_end ?_ | refine g_then ?_ | refine g_in_normal ?_ | refine g_then_ret ?_ | refine g_in_ret ?_ | refine g_then_exit ?_ | refine g_in_exit rfl ?_ | refine g_in_exit_ne (by decide) ?_ | refine g_seq ?_ | refine g_region ?_ | refine g_block ?_ | refine g_ret ?_ | refine g_return_n ?_ | refine g_exit ?_ | refine g_skip ?_)
      exact ret1 rfl (resT (v := .int .i64 1) rfl) ⟨by simp [cmpI, h1, h2], rfl⟩
    · first | refine g_seq (g_cond_f rfl (by simpa using h2) ?_) | refine g_cond_f rfl (by simpa using h2) ?_
      repeat (first | refine g_endt ?_ | refine g_end ?_ | refine g_then ?_ | refine g_in_normal ?_ | refine g_then_ret ?_ | refine g_in_ret ?_ | refine g_then_exit ?_ | refine g_in_exit rfl ?_ | refine g_in_exit_ne (by decide) ?_ | refine g_seq ?_ | refine g_region ?_ | refine g_block ?_ | refine g_ret ?_ | refine g_return_n ?_ | refine g_exit ?_ | refine g_skip ?_)
      refine o_assign ?_
      first | refine g_endt ?_ | refine g_end ?_
      repeat (first | refine g_endt ?_ | refine g_end ?_ | refine g_then ?_ | refine g_in_normal ?_ | refine g_then_ret ?_ | refine g_in_ret ?_ | refine g_then_exit ?_ | refine g_in_exit rfl ?_ | refine g_in_exit_ne (by decide) ?_ | refine g_seq ?_ | refine g_region ?_ | refine g_block ?_ | refine g_ret ?_ | refine g_return_n ?_ | refine g_exit ?_ | refine g_skip ?_)
      exact ret1 rfl (resT (v := .int .i64 0) rfl) ⟨by simp [cmpI, h1, h2], rfl⟩
theorem CompareS_spec (a b : ByteArray) : Ctr Try.prog 113 [.string a, .string b] [] (fun v M => v = .int .i64 (cmpS a b) ∧ M = []) := by
  refine spec_of Try.func113 rfl Try.ntmps113 rfl fun w0 F => ?_
  repeat (first | refine g_endt ?_ | refine g_end ?_ | refine g_then ?_ | refine g_in_normal ?_ | refine g_then_ret ?_ | refine g_in_ret ?_ | refine g_then_exit ?_ | refine g_in_exit rfl ?_ | refine g_in_exit_ne (by decide) ?_ | refine g_seq ?_ | refine g_region ?_ | refine g_block ?_ | refine g_ret ?_ | refine g_return_n ?_ | refine g_exit ?_ | refine g_skip ?_)
  refine o_assign ?_
  first | refine g_endt ?_ | refine g_end ?_
  repeat (first | refine g_endt ?_ | refine g_end ?_ | refine g_then ?_ | refine g_in_normal ?_ | refine g_then_ret ?_ | refine g_in_ret ?_ | refine g_then_exit ?_ | refine g_in_exit rfl ?_ | refine g_in_exit_ne (by decide) ?_ | refine g_seq ?_ | refine g_region ?_ | refine g_block ?_ | refine g_ret ?_ | refine g_return_n ?_ | refine g_exit ?_ | refine g_skip ?_)
  refine o_move ?_
  refine o_call (isNaNS_spec a) rfl rfl ?_
  rintro _ _ ⟨rfl, rfl⟩
  refine o_assign ?_
  first | refine g_endt ?_ | refine g_end ?_
  repeat (first | refine g_endt ?_ | refine g_end ?_ | refine g_then ?_ | refine g_in_normal ?_ | refine g_then_ret ?_ | refine g_in_ret ?_ | refine g_then_exit ?_ | refine g_in_exit rfl ?_ | refine g_in_exit_ne (by decide) ?_ | refine g_seq ?_ | refine g_region ?_ | refine g_block ?_ | refine g_ret ?_ | refine g_return_n ?_ | refine g_exit ?_ | refine g_skip ?_)
  refine o_move ?_
  refine o_call (isNaNS_spec b) rfl rfl ?_
  rintro _ _ ⟨rfl, rfl⟩
  refine o_assign ?_
  first | refine g_endt ?_ | refine g_end ?_
  repeat (first | refine g_endt ?_ | refine g_end ?_ | refine g_then ?_ | refine g_in_normal ?_ | refine g_then_ret ?_ | refine g_in_ret ?_ | refine g_then_exit ?_ | refine g_in_exit rfl ?_ | refine g_in_exit_ne (by decide) ?_ | refine g_seq ?_ | refine g_region ?_ | refine g_block ?_ | refine g_ret ?_ | refine g_return_n ?_ | refine g_exit ?_ | refine g_skip ?_)
  refine o_move ?_
  first | refine g_endt ?_ | refine g_end ?_
  first | refine g_seq (g_cond_f rfl (rfl) ?_) | refine g_cond_f rfl (rfl) ?_
  repeat (first | refine g_endt ?_ | refine g_end ?_ | refine g_then ?_ | refine g_in_normal ?_ | refine g_then_ret ?_ | refine g_in_ret ?_ | refine g_then_exit ?_ | refine g_in_exit rfl ?_ | refine g_in_exit_ne (by decide) ?_ | refine g_seq ?_ | refine g_region ?_ | refine g_block ?_ | refine g_ret ?_ | refine g_return_n ?_ | refine g_exit ?_ | refine g_skip ?_)
  refine o_move ?_
  first | refine g_endt ?_ | refine g_end ?_
  first | refine g_seq (g_cond_f rfl (rfl) ?_) | refine g_cond_f rfl (rfl) ?_
  repeat (first | refine g_endt ?_ | refine g_end ?_ | refine g_then ?_ | refine g_in_normal ?_ | refine g_then_ret ?_ | refine g_in_ret ?_ | refine g_then_exit ?_ | refine g_in_exit rfl ?_ | refine g_in_exit_ne (by decide) ?_ | refine g_seq ?_ | refine g_region ?_ | refine g_block ?_ | refine g_ret ?_ | refine g_return_n ?_ | refine g_exit ?_ | refine g_skip ?_)
  refine o_move ?_
  refine o_move ?_
  refine o_slss rfl rfl ?_
  first | refine g_endt ?_ | refine g_end ?_
  by_cases h1 : Op.bytesLess a.toList b.toList = true
  · first | refine g_seq (g_cond_t rfl (h1) ?_) | refine g_cond_t rfl (h1) ?_
    repeat (first | refine g_endt ?_ | refine g_end ?_ | refine g_then ?_ | refine g_in_normal ?_ | refine g_then_ret ?_ | refine g_in_ret ?_ | refine g_then_exit ?_ | refine g_in_exit rfl ?_ | refine g_in_exit_ne (by decide) ?_ | refine g_seq ?_ | refine g_region ?_ | refine g_block ?_ | refine g_ret ?_ | refine g_return_n ?_ | refine g_exit ?_ | refine g_skip ?_)
    refine o_assign ?_
    first | refine g_endt ?_ | refine g_end ?_
    repeat (first | refine g_endt ?_ | refine g_end ?_ | refine g_then ?_ | refine g_in_normal ?_ | refine g_then_ret ?_ | refine g_in_ret ?_ | refine g_then_exit ?_ | refine g_in_exit rfl ?_ | refine g_in_exit_ne (by decide) ?_ | refine g_seq ?_ | refine g_region ?_ | refine g_block ?_ | refine g_ret ?_ | refine g_return_n ?_ | refine g_exit ?_ | refine g_skip ?_)
    exact ret1 rfl (resT (v := .int .i64 (-1)) rfl) ⟨by simp [cmpS, h1], rfl⟩
  · first | refine g_seq (g_cond_f rfl (by simpa using h1) ?_) | refine g_cond_f rfl (by simpa using h1) ?_
    repeat (first | refine g_endt ?_ | refine g_end ?_ | refine g_then ?_ | refine g_in_normal ?_ | refine g_then_ret ?_ | refine g_in_ret ?_ | refine g_then_exit ?_ | refine g_in_exit rfl ?_ | refine g_in_exit_ne (by decide) ?_ | refine g_seq ?_ | refine g_region ?_ | refine g_block ?_ | refine g_ret ?_ | refine g_return_n ?_ | refine g_exit ?_ | refine g_skip ?_)
    refine o_move ?_
    refine o_move ?_
    refine o_sgtr rfl rfl ?_
    first | refine g_endt ?_ | refine g_end ?_
    by_cases h2 : Op.bytesLess b.toList a.toList = true
    · first | refine g_seq (g_cond_t rfl (h2) ?_) | refine g_cond_t rfl (h2) ?_
      repeat (first | refine g_endt ?_ | refine g_end ?_ | refine g_then ?_ | refine g_in_normal ?_ | refine g_then_ret ?_ | refine g_in_ret ?_ | refine g_then_exit ?_ | refine g_in_exit rfl ?_ | refine g_in_exit_ne (by decide) ?_ | refine g_seq ?_ | refine g_region ?_ | refine g_block ?_ | refine g_ret ?_ | refine g_return_n ?_ | refine g_exit ?_ | refine g_skip ?_)
      refine o_assign ?_
      first | refine g_endt ?_ | refine g_end ?_
      repeat (first | refine g_endt ?_ | refine g_end ?_ | refine g_then ?_ | refine g_in_normal ?_ | refine g_then_ret ?_ | refine g_in_ret ?_ | refine g_then_exit ?_ | refine g_in_exit rfl ?_ | refine g_in_exit_ne (by decide) ?_ | refine g_seq ?_ | refine g_region ?_ | refine g_block ?_ | refine g_ret ?_ | refine g_return_n ?_ | refine g_exit ?_ | refine g_skip ?_)
      exact ret1 rfl (resT (v := .int .i64 1) rfl) ⟨by simp [cmpS, h1, h2], rfl⟩
    · first | refine g_seq (g_cond_f rfl (by simpa using h2) ?_) | refine g_cond_f rfl (by simpa using h2) ?_
      repeat (first | refine g_endt ?_ | refine g_end ?_ | refine g_then ?_ | refine g_in_normal ?_ | refine g_then_ret ?_ | refine g_in_ret ?_ | refine g_then_exit ?_ | refine g_in_exit rfl ?_ | refine g_in_exit_ne (by decide) ?_ | refine g_seq ?_ | refine g_region ?_ | refine g_block ?_ | refine g_ret ?_ | refine g_return_n ?_ | refine g_exit ?_ | refine g_skip ?_)
      refine o_assign ?_
      first | refine g_endt ?_ | refine g_end ?_
      repeat (first | refine g_endt ?_ | refine g_end ?_ | refine g_then ?_ | refine g_in_normal ?_ | refine g_then_ret ?_ | refine g_in_ret ?_ | refine g_then_exit ?_ | refine g_in_exit rfl ?_ | refine g_in_exit_ne (by decide) ?_ | refine g_seq ?_ | refine g_region ?_ | refine g_block ?_ | refine g_ret ?_ | refine g_return_n ?_ | refine g_exit ?_ | refine g_skip ?_)
      exact ret1 rfl (resT (v := .int .i64 0) rfl) ⟨by simp [cmpS, h1, h2], rfl⟩
theorem CompareSym_spec (a b : SymD) : Ctr Try.prog 111 [a.val, b.val] [] (fun v M => v = .int .i64 (a.cmp b) ∧ M = []) := by
  refine spec_of Try.func111 rfl Try.ntmps111 rfl fun w0 F => ?_
  repeat (first | refine g_endt ?_ | refine g_end ?_ | refine g_then ?_ | refine g_in_normal ?_ | refine g_then_ret ?_ | refine g_in_ret ?_ | refine g_then_exit ?_ | refine g_in_exit rfl ?_ | refine g_in_exit_ne (by decide) ?_ | refine g_seq ?_ | refine g_region ?_ | refine g_block ?_ | refine g_ret ?_ | refine g_return_n ?_ | refine g_exit ?_ | refine g_skip ?_)
  refine o_boxc a.val.cells rfl rfl fun p => ?_
  refine o_boxc b.val.cells rfl rfl fun q => ?_
  refine o_assign ?_
  first | refine g_endt ?_ | refine g_end ?_
  repeat (first | refine g_endt ?_ | refine g_end ?_ | refine g_then ?_ | refine g_in_normal ?_ | refine g_then_ret ?_ | refine g_in_ret ?_ | refine g_then_exit ?_ | refine g_in_exit rfl ?_ | refine g_in_exit_ne (by decide) ?_ | refine g_seq ?_ | refine g_region ?_ | refine g_block ?_ | refine g_ret ?_ | refine g_return_n ?_ | refine g_exit ?_ | refine g_skip ?_)
  refine o_field rfl ?_
  refine o_load1 (v := .int .i64 a.kind) rfl rfl ?_
  refine o_field rfl ?_
  refine o_load1 (v := .int .i64 b.kind) rfl rfl ?_
  refine o_call (CompareI_spec a.kind b.kind) rfl rfl ?_
  rintro _ _ ⟨rfl, rfl⟩
  refine o_assign ?_
  first | refine g_endt ?_ | refine g_end ?_
  repeat (first | refine g_endt ?_ | refine g_end ?_ | refine g_then ?_ | refine g_in_normal ?_ | refine g_then_ret ?_ | refine g_in_ret ?_ | refine g_then_exit ?_ | refine g_in_exit rfl ?_ | refine g_in_exit_ne (by decide) ?_ | refine g_seq ?_ | refine g_region ?_ | refine g_block ?_ | refine g_ret ?_ | refine g_return_n ?_ | refine g_exit ?_ | refine g_skip ?_)
  refine o_move ?_
  refine o_neq rfl rfl ?_
  first | refine g_endt ?_ | refine g_end ?_
  by_cases h1 : cmpI a.kind b.kind = 0
  · first | refine g_seq (g_cond_f rfl (by simpa using h1) ?_) | refine g_cond_f rfl (by simpa using h1) ?_
    repeat (first | refine g_endt ?_ | refine g_end ?_ | refine g_then ?_ | refine g_in_normal ?_ | refine g_then_ret ?_ | refine g_in_ret ?_ | refine g_then_exit ?_ | refine g_in_exit rfl ?_ | refine g_in_exit_ne (by decide) ?_ | refine g_seq ?_ | refine g_region ?_ | refine g_block ?_ | refine g_ret ?_ | refine g_return_n ?_ | refine g_exit ?_ | refine g_skip ?_)
    refine o_field rfl ?_
    refine o_load1 (v := .string a.text) rfl rfl ?_
    refine o_field rfl ?_
    refine o_load1 (v := .string b.text) rfl rfl ?_
    refine o_call (CompareS_spec a.text b.text) rfl rfl ?_
    rintro _ _ ⟨rfl, rfl⟩
    refine o_assign ?_
    first | refine g_endt ?_ | refine g_end ?_
    repeat (first | refine g_endt ?_ | refine g_end ?_ | refine g_then ?_ | refine g_in_normal ?_ | refine g_then_ret ?_ | refine g_in_ret ?_ | refine g_then_exit ?_ | refine g_in_exit rfl ?_ | refine g_in_exit_ne (by decide) ?_ | refine g_seq ?_ | refine g_region ?_ | refine g_block ?_ | refine g_ret ?_ | refine g_return_n ?_ | refine g_exit ?_ | refine g_skip ?_)
    refine o_move ?_
    refine o_neq rfl rfl ?_
    first | refine g_endt ?_ | refine g_end ?_
    by_cases h2 : cmpS a.text b.text = 0
    · first | refine g_seq (g_cond_f rfl (by simpa using h2) ?_) | refine g_cond_f rfl (by simpa using h2) ?_
      repeat (first | refine g_endt ?_ | refine g_end ?_ | refine g_then ?_ | refine g_in_normal ?_ | refine g_then_ret ?_ | refine g_in_ret ?_ | refine g_then_exit ?_ | refine g_in_exit rfl ?_ | refine g_in_exit_ne (by decide) ?_ | refine g_seq ?_ | refine g_region ?_ | refine g_block ?_ | refine g_ret ?_ | refine g_return_n ?_ | refine g_exit ?_ | refine g_skip ?_)
      refine o_field rfl ?_
      refine o_load1 (v := .int .i64 a.n) rfl rfl ?_
      refine o_field rfl ?_
      refine o_load1 (v := .int .i64 b.n) rfl rfl ?_
      refine o_call (CompareI_spec a.n b.n) rfl rfl ?_
      rintro _ _ ⟨rfl, rfl⟩
      refine o_assign ?_
      first | refine g_endt ?_ | refine g_end ?_
      repeat (first | refine g_endt ?_ | refine g_end ?_ | refine g_then ?_ | refine g_in_normal ?_ | refine g_then_ret ?_ | refine g_in_ret ?_ | refine g_then_exit ?_ | refine g_in_exit rfl ?_ | refine g_in_exit_ne (by decide) ?_ | refine g_seq ?_ | refine g_region ?_ | refine g_block ?_ | refine g_ret ?_ | refine g_return_n ?_ | refine g_exit ?_ | refine g_skip ?_)
      exact ret1 rfl (resT (v := .int .i64 (cmpI a.n b.n)) rfl) ⟨by simp [SymD.cmp, lex, h1, h2], rfl⟩
    · first | refine g_seq (g_cond_t rfl (by simpa using h2) ?_) | refine g_cond_t rfl (by simpa using h2) ?_
      repeat (first | refine g_endt ?_ | refine g_end ?_ | refine g_then ?_ | refine g_in_normal ?_ | refine g_then_ret ?_ | refine g_in_ret ?_ | refine g_then_exit ?_ | refine g_in_exit rfl ?_ | refine g_in_exit_ne (by decide) ?_ | refine g_seq ?_ | refine g_region ?_ | refine g_block ?_ | refine g_ret ?_ | refine g_return_n ?_ | refine g_exit ?_ | refine g_skip ?_)
      refine o_move ?_
      refine o_assign ?_
      first | refine g_endt ?_ | refine g_end ?_
      repeat (first | refine g_endt ?_ | refine g_end ?_ | refine g_then ?_ | refine g_in_normal ?_ | refine g_then_ret ?_ | refine g_in_ret ?_ | refine g_then_exit ?_ | refine g_in_exit rfl ?_ | refine g_in_exit_ne (by decide) ?_ | refine g_seq ?_ | refine g_region ?_ | refine g_block ?_ | refine g_ret ?_ | refine g_return_n ?_ | refine g_exit ?_ | refine g_skip ?_)
      exact ret1 rfl (resT (v := .int .i64 (cmpS a.text b.text)) rfl) ⟨by simp [SymD.cmp, lex, h1, h2], rfl⟩
  · first | refine g_seq (g_cond_t rfl (by simpa using h1) ?_) | refine g_cond_t rfl (by simpa using h1) ?_
    repeat (first | refine g_endt ?_ | refine g_end ?_ | refine g_then ?_ | refine g_in_normal ?_ | refine g_then_ret ?_ | refine g_in_ret ?_ | refine g_then_exit ?_ | refine g_in_exit rfl ?_ | refine g_in_exit_ne (by decide) ?_ | refine g_seq ?_ | refine g_region ?_ | refine g_block ?_ | refine g_ret ?_ | refine g_return_n ?_ | refine g_exit ?_ | refine g_skip ?_)
    refine o_move ?_
    refine o_assign ?_
    first | refine g_endt ?_ | refine g_end ?_
    repeat (first | refine g_endt ?_ | refine g_end ?_ | refine g_then ?_ | refine g_in_normal ?_ | refine g_then_ret ?_ | refine g_in_ret ?_ | refine g_then_exit ?_ | refine g_in_exit rfl ?_ | refine g_in_exit_ne (by decide) ?_ | refine g_seq ?_ | refine g_region ?_ | refine g_block ?_ | refine g_ret ?_ | refine g_return_n ?_ | refine g_exit ?_ | refine g_skip ?_)
    exact ret1 rfl (resT (v := .int .i64 (cmpI a.kind b.kind)) rfl) ⟨by simp [SymD.cmp, lex, h1], rfl⟩
end Go.Proofs.Ytdpbjoldgiikkaa
/- Pages of symbols and numbers; sorted lists; where a thing stands in one. -/
namespace Go.Proofs.Ytdpbjoldgiikkaa
open Go Go.Sl
attribute [local irreducible] Code.wpIn roundPost bodyPostM runL Ret Meets Begin

section
variable {α : Type} (f : α → α → Int)
/-- The list rises. -/
def Srt (ys : List α) : Prop := ∀ (i j : Nat) (a b : α), i < j → ys[i]? = some a → ys[j]? = some b → f a b < 0
/-- What a search tells. -/
def FindR (ys : List α) (x : α) (k : Nat) (there : Bool) : Prop :=
  k ≤ ys.length ∧ (there = true → ∃ y, ys[k]? = some y ∧ f y x = 0) ∧ (there = false → (∀ (j : Nat) (y : α), j < k → ys[j]? = some y → f y x < 0) ∧ ∀ (j : Nat) (y : α), k ≤ j → ys[j]? = some y → 0 < f y x)
end
/-- A slice, as a value. -/
structure SlV where
  a : Option Addr
  len : Nat
  cap : Nat
end Go.Proofs.Ytdpbjoldgiikkaa
/- Sorted lists: a member put in, taken out, exchanged. Plain law, no program in sight. -/
namespace Go.Proofs.Ytdpbjoldgiikkaa
open Go Go.Sl

section
variable {α : Type} {f : α → α → Int} (lf : LinCmp f) {ys : List α} {x y : α} {k : Nat}
theorem get_ins (hk : k ≤ ys.length) (j : Nat) : (ys.take k ++ x :: ys.drop k)[j]? = if j < k then ys[j]? else if j = k then some x else ys[j - 1]? := by
  have h1 : (ys.take k).length = k := by simp; omega
  by_cases h : j < k
  · rw [List.getElem?_append_left (by omega), if_pos h, List.getElem?_take, if_pos h]
  · rw [if_neg h, List.getElem?_append_right (by omega), h1]
    by_cases e : j = k
    · subst e; simp
    · rw [if_neg e]
      obtain ⟨m, hm⟩ : ∃ m, j - k = m + 1 := ⟨j - k - 1, by omega⟩
      rw [hm, List.getElem?_cons_succ, List.getElem?_drop]
      congr 1
      omega
theorem Srt.erase (hs : Srt f ys) (k : Nat) : Srt f (ys.eraseIdx k) := by
  intro i j a b hij ha hb
  rw [List.getElem?_eraseIdx] at ha hb
  split at ha <;> split at hb
  · exact hs i j a b hij ha hb
  · exact hs i (j + 1) a b (by omega) ha hb
  · omega
  · exact hs (i + 1) (j + 1) a b (by omega) ha hb
/-- The member that is one with x. -/
def getM (f : α → α → Int) (ys : List α) (x : α) : Option α := ys.find? fun y => decide (f y x = 0)
theorem getM_none (h : FindR f ys x k false) : getM f ys x = none := by
  obtain ⟨h1, h2⟩ := h.2.2 rfl
  refine List.find?_eq_none.2 fun y hy => ?_
  obtain ⟨j, hj⟩ := List.mem_iff_getElem?.1 hy
  by_cases hjk : j < k
  · have := h1 j y hjk hj; simp; omega
  · have := h2 j y (by omega) hj; simp; omega
include lf
theorem Srt.ins (hs : Srt f ys) (hf : FindR f ys x k false) : Srt f (ys.take k ++ x :: ys.drop k) := by
  obtain ⟨hk, _, h⟩ := hf
  obtain ⟨h1, h2⟩ := h rfl
  intro i j a b hij ha hb
  rw [get_ins hk] at ha hb
  by_cases hi : i < k
  · rw [if_pos hi] at ha
    by_cases hj : j < k
    · rw [if_pos hj] at hb; exact hs i j a b hij ha hb
    · rw [if_neg hj] at hb
      by_cases e : j = k
      · rw [if_pos e] at hb; cases hb; exact h1 i a hi ha
      · rw [if_neg e] at hb; exact hs i (j - 1) a b (by omega) ha hb
  · rw [if_neg hi] at ha
    rw [if_neg (by omega), if_neg (by omega)] at hb
    by_cases e : i = k
    · rw [if_pos e] at ha; cases ha
      have := h2 (j - 1) b (by omega) hb
      have := lf.swap b x
      omega
    · rw [if_neg e] at ha; exact hs (i - 1) (j - 1) a b (by omega) ha hb
theorem Srt.set (hs : Srt f ys) (hy : ys[k]? = some y) (e : f y x = 0) : Srt f (ys.set k x) := by
  have hk : k < ys.length := (List.getElem?_eq_some_iff.1 hy).1
  intro i j a b hij ha hb
  rw [List.getElem?_set] at ha hb
  by_cases hi : k = i
  · rw [if_pos hi, if_pos (by omega)] at ha
    cases ha
    rw [if_neg (by omega)] at hb
    subst hi
    rw [← lf.eqv y x b e]
    exact hs k j y b hij hy hb
  · rw [if_neg hi] at ha
    by_cases hj : k = j
    · rw [if_pos hj, if_pos (by omega)] at hb
      cases hb
      subst hj
      rw [← lf.eqv' y x a e]
      exact hs i k a y hij ha hy
    · rw [if_neg hj] at hb
      exact hs i j a b hij ha hb
/-- Where a thing stands is one place. -/
theorem FindR.one {k' : Nat} (hs : Srt f ys) (h : FindR f ys x k true) (h' : FindR f ys x k' true) : k = k' := by
  obtain ⟨a, ha, ea⟩ := h.2.1 rfl
  obtain ⟨b, hb, eb⟩ := h'.2.1 rfl
  have e2 : f a b = 0 := by
    have h3 := lf.swap b x
    rw [lf.eqv' x b a (by omega)] at ea
    exact ea
  rcases Nat.lt_trichotomy k k' with h3 | h3 | h3
  · have := hs k k' a b h3 ha hb; omega
  · exact h3
  · have := hs k' k b a h3 hb ha
    have := lf.swap a b
    omega
theorem getM_some (hs : Srt f ys) (h : FindR f ys x k true) (hy : ys[k]? = some y) : getM f ys x = some y := by
  have hk := h.2.1 rfl
  obtain ⟨a, ha, ea⟩ := hk
  rw [hy] at ha
  cases ha
  cases hg : getM f ys x with
  | none =>
    have := List.find?_eq_none.1 hg y (List.mem_of_getElem? hy)
    simp [ea] at this
  | some b =>
    have h1 := List.find?_some hg
    have h2 := List.mem_of_find?_eq_some hg
    obtain ⟨j, hj⟩ := List.mem_iff_getElem?.1 h2
    have h3 : FindR f ys x j true := ⟨by have := (List.getElem?_eq_some_iff.1 hj).1; omega, fun _ => ⟨b, hj, by simpa using h1⟩, fun e => by cases e⟩
    have h4 := FindR.one lf hs h h3
    subst h4
    rw [hy] at hj
    exact hj.symm
/-- What is not there has its place all the same. -/
theorem find_none (hs : Srt f ys) (h : getM f ys x = none) : ∃ k, FindR f ys x k false := by
  have hne : ∀ (j : Nat) (a : α), ys[j]? = some a → f a x ≠ 0 := fun j a ha => by
    have := List.find?_eq_none.1 h a (List.mem_of_getElem? ha)
    simpa using this
  have key : ∀ n, n ≤ ys.length → ∃ k, k ≤ n ∧ (∀ (j : Nat) (a : α), j < k → ys[j]? = some a → f a x < 0) ∧ ∀ (j : Nat) (a : α), k ≤ j → j < n → ys[j]? = some a → 0 < f a x := by
    intro n
    induction n with
    | zero => exact fun _ => ⟨0, Nat.le_refl _, fun j a hj => absurd hj (Nat.not_lt_zero j), fun j a _ hj => absurd hj (Nat.not_lt_zero j)⟩
    | succ n ih =>
      intro hn
      obtain ⟨k, hk, h1, h2⟩ := ih (by omega)
      obtain ⟨b, hb⟩ : ∃ b, ys[n]? = some b := ⟨_, List.getElem?_eq_getElem (by omega)⟩
      by_cases hlt : f b x < 0
      · refine ⟨n + 1, Nat.le_refl _, fun j a hj ha => ?_, fun j a h3 h4 => by omega⟩
        by_cases e : j = n
        · subst e; rw [hb] at ha; cases ha; exact hlt
        · exact lf.trans _ _ _ (hs j n a b (by omega) ha hb) hlt
      · refine ⟨k, by omega, h1, fun j a hj hjn ha => ?_⟩
        by_cases e : j = n
        · subst e; rw [hb] at ha; cases ha; have := hne j b hb; omega
        · exact h2 j a hj (by omega) ha
  obtain ⟨k, hk, h1, h2⟩ := key ys.length (Nat.le_refl _)
  exact ⟨k, hk, fun e => (by cases e), fun _ => ⟨h1, fun j a hj ha => h2 j a hj (List.getElem?_eq_some_iff.1 ha).1 ha⟩⟩
/-- One exchanged for another that is one with it: taken out and put in again. -/
theorem replace {k' : Nat} {there : Bool} (hs : Srt f ys) (hy : ys[k]? = some y) (e : f y x = 0) (h : FindR f (ys.eraseIdx k) x k' there) : there = false ∧ (ys.eraseIdx k).take k' ++ x :: (ys.eraseIdx k).drop k' = ys.set k x := by
  have hk : k < ys.length := (List.getElem?_eq_some_iff.1 hy).1
  have low : ∀ j a, j < k → ys[j]? = some a → f a x < 0 := fun j a hj ha => by
    rw [← lf.eqv' y x a e]; exact hs j k a y hj ha hy
  have high : ∀ j a, k < j → ys[j]? = some a → 0 < f a x := fun j a hj ha => by
    have h1 := hs k j y a hj hy ha
    have h2 := lf.swap y a
    rw [← lf.eqv' y x a e]
    omega
  have hne : ∀ j a, (ys.eraseIdx k)[j]? = some a → f a x ≠ 0 := fun j a ha => by
    rw [List.getElem?_eraseIdx] at ha
    split at ha
    · have := low j a ‹_› ha; omega
    · have := high (j + 1) a (by omega) ha; omega
  have ht : there = false := by
    cases there with
    | false => rfl
    | true =>
      obtain ⟨a, ha, ea⟩ := h.2.1 rfl
      exact absurd ea (hne k' a ha)
  subst ht
  refine ⟨rfl, ?_⟩
  obtain ⟨h1, h2⟩ := h.2.2 rfl
  have hlen : (ys.eraseIdx k).length = ys.length - 1 := by rw [List.length_eraseIdx, if_pos hk]
  have hkk : k' = k := by
    rcases Nat.lt_trichotomy k' k with h3 | h3 | h3
    · have hj : k' < ys.length := by omega
      have ha : (ys.eraseIdx k)[k']? = some ys[k'] := by rw [List.getElem?_eraseIdx, if_pos h3, List.getElem?_eq_getElem hj]
      have := h2 k' _ (Nat.le_refl _) ha
      have := low k' _ h3 (List.getElem?_eq_getElem hj)
      omega
    · exact h3
    · have hj : k + 1 < ys.length := by have := h.1; omega
      have ha : (ys.eraseIdx k)[k]? = some ys[k + 1] := by rw [List.getElem?_eraseIdx, if_neg (by omega), List.getElem?_eq_getElem hj]
      have := h1 k _ h3 ha
      have := high (k + 1) _ (by omega) (List.getElem?_eq_getElem hj)
      omega
  subst hkk
  rw [List.eraseIdx_eq_take_drop_succ, List.set_eq_take_append_cons_drop, if_pos hk]
  have h3 : (ys.take k').length = k' := by simp; omega
  rw [List.take_append_of_le_length (by omega), List.take_of_length_le (by omega), List.drop_append_of_le_length (by omega), List.drop_of_length_le (by omega), List.nil_append]
end
/-- What a search tells, and what is passed over. -/
theorem find_dropWhile {α : Type} {f : α → α → Int} (lf : LinCmp f) {ys : List α} {x : α} {k : Nat} {there : Bool} (hs : Srt f ys) (h : FindR f ys x k there) : ys.drop k = ys.dropWhile fun y => decide (f y x < 0) := by
  have h1 : ∀ (j : Nat) (y : α), j < k → ys[j]? = some y → f y x < 0 := by
    cases there with
    | false => exact (h.2.2 rfl).1
    | true =>
      obtain ⟨z, hz, e⟩ := h.2.1 rfl
      intro j y hj hy
      have := hs j k y z hj hy hz
      have h2 := lf.eqv' z x y e
      omega
  have h2 : ∀ (j : Nat) (y : α), k ≤ j → ys[j]? = some y → ¬ f y x < 0 := by
    cases there with
    | false => intro j y hj hy; have := (h.2.2 rfl).2 j y hj hy; omega
    | true =>
      obtain ⟨z, hz, e⟩ := h.2.1 rfl
      intro j y hj hy
      by_cases e2 : j = k
      · subst e2; rw [hz] at hy; cases hy; omega
      · have := hs k j z y (by omega) hz hy
        have h3 := lf.eqv' z x y e
        have h4 := lf.swap z y
        omega
  have h0 := h.1
  clear h hs lf
  induction ys generalizing k with
  | nil => simp
  | cons y ys ih =>
    cases k with
    | zero =>
      have := h2 0 y (Nat.le_refl _) rfl
      simp [this]
    | succ k =>
      have := h1 0 y (by omega) rfl
      simp only [List.drop_succ_cons]
      rw [List.dropWhile_cons_of_pos (by simpa using this)]
      exact ih (fun j z hj hz => h1 (j + 1) z (by omega) (by simpa using hz)) (fun j z hj hz => h2 (j + 1) z (by omega) (by simpa using hz)) (by simpa using h0)
/-- A loop's store, opened till its first round. -/
def Jin {α : Type} (O : List SProp) (J : List α → List SProp) : List α → List SProp
  | [] => O
  | y :: t => J (y :: t)
theorem Jin_snoc {α : Type} (O : List SProp) (J : List α → List SProp) (pre : List α) (x : α) : Jin O J (pre ++ [x]) = J (pre ++ [x]) := by cases pre <;> rfl
theorem Jin_ent {α : Type} {O : List SProp} {J : List α → List SProp} (h : Ent (sl O) (sl (J []))) : ∀ pre, Ent (sl (Jin O J pre)) (sl (J pre))
  | [] => h
  | _ :: _ => .refl _
end Go.Proofs.Ytdpbjoldgiikkaa
/- Sorted lists, told as functions: one more, one less. Plain law, no program in sight. -/
namespace Go.Proofs.Ytdpbjoldgiikkaa
open Go Go.Sl

section
variable {α : Type} {f : α → α → Int}
/-- One more, if there is none that is one with it. -/
def insC (f : α → α → Int) (ys : List α) (x : α) : List α := if ys.any (fun y => decide (f y x = 0)) then ys else ys.takeWhile (fun y => decide (f y x < 0)) ++ x :: ys.dropWhile (fun y => decide (f y x < 0))
/-- Without the one that is one with it. -/
def delC (f : α → α → Int) (ys : List α) (x : α) : List α := ys.filter fun y => !decide (f y x = 0)
/-- Is there one that is one with it? -/
def hasC (f : α → α → Int) (ys : List α) (x : α) : Bool := ys.any fun y => decide (f y x = 0)
theorem hasC_of {ys : List α} {x : α} {k : Nat} {there : Bool} (h : FindR f ys x k there) : hasC f ys x = there := by
  cases there with
  | true =>
    obtain ⟨y, hy, e⟩ := h.2.1 rfl
    exact List.any_eq_true.2 ⟨y, List.mem_of_getElem? hy, by simpa using e⟩
  | false =>
    obtain ⟨h1, h2⟩ := h.2.2 rfl
    refine List.any_eq_false.2 fun y hy => ?_
    obtain ⟨j, hj⟩ := List.mem_iff_getElem?.1 hy
    simp only [decide_eq_true_eq]
    by_cases hlt : j < k
    · have := h1 j y hlt hj; omega
    · have := h2 j y (by omega) hj; omega
theorem take_takeWhile {p : α → Bool} : ∀ (ys : List α) (k : Nat), ys.drop k = ys.dropWhile p → k ≤ ys.length → ys.take k = ys.takeWhile p := fun ys k h hk => by
  have h1 := List.take_append_drop k ys
  have h2 : ys.takeWhile p ++ ys.dropWhile p = ys := List.takeWhile_append_dropWhile
  rw [h] at h1
  exact List.append_cancel_right (h1.trans h2.symm)
theorem insC_of (lf : LinCmp f) {ys : List α} {x : α} {k : Nat} {there : Bool} (hs : Srt f ys) (h : FindR f ys x k there) : cond there ys (ys.take k ++ x :: ys.drop k) = insC f ys x := by
  have h1 := hasC_of h
  unfold insC
  unfold hasC at h1
  rw [h1]
  cases there with
  | true => rfl
  | false =>
    have h2 := find_dropWhile lf hs h
    simp only [cond_false, Bool.false_eq_true, if_false]
    rw [take_takeWhile ys k h2 h.1, h2]
theorem Srt.tail {y : α} {ys : List α} (h : Srt f (y :: ys)) : Srt f ys := fun i j a b hij ha hb => h (i + 1) (j + 1) a b (by omega) (by simpa using ha) (by simpa using hb)
theorem Srt.head {y : α} {ys : List α} (h : Srt f (y :: ys)) : ∀ z ∈ ys, f y z < 0 := fun z hz => by
  obtain ⟨j, hj⟩ := List.mem_iff_getElem?.1 hz
  exact h 0 (j + 1) y z (by omega) rfl (by simpa using hj)
theorem Srt.cons {y : α} {ys : List α} (h : ∀ z ∈ ys, f y z < 0) (hs : Srt f ys) : Srt f (y :: ys) := fun i j a b hij ha hb => by
  cases j with
  | zero => omega
  | succ j =>
    cases i with
    | zero => simp at ha hb; subst ha; exact h b (List.mem_of_getElem? hb)
    | succ i => exact hs i j a b (by omega) (by simpa using ha) (by simpa using hb)
theorem Srt.nil : Srt f ([] : List α) := fun i j a b _ h => by simp at h
theorem Srt.one (y : α) : Srt f [y] := Srt.cons (by simp) Srt.nil
theorem Srt.filter (p : α → Bool) : ∀ {ys : List α}, Srt f ys → Srt f (ys.filter p)
  | [], _ => by simpa using Srt.nil
  | y :: ys, h => by
    rw [List.filter_cons]
    split
    · exact Srt.cons (fun z hz => h.head z (List.mem_filter.1 hz).1) (Srt.filter p h.tail)
    · exact Srt.filter p h.tail
theorem Srt.find (lf : LinCmp f) : ∀ {ys : List α}, Srt f ys → ∀ x, ∃ k there, FindR f ys x k there
  | [], _, x => ⟨0, false, Nat.le_refl _, fun e => (by cases e), fun _ => ⟨fun j y h => absurd h (Nat.not_lt_zero j), fun j y _ h => by simp at h⟩⟩
  | y :: ys, h, x => by
    by_cases h0 : f y x = 0
    · exact ⟨0, true, Nat.zero_le _, fun _ => ⟨y, rfl, h0⟩, fun e => by cases e⟩
    · by_cases h1 : f y x < 0
      · obtain ⟨k, t, a, b, c⟩ := h.tail.find lf x
        refine ⟨k + 1, t, by simpa using a, fun e => ?_, fun e => ?_⟩
        · simpa using b e
        · obtain ⟨c1, c2⟩ := c e
          refine ⟨fun j z hj hz => ?_, fun j z hj hz => ?_⟩
          · cases j with
            | zero => simp at hz; subst hz; exact h1
            | succ j => exact c1 j z (by omega) (by simpa using hz)
          · cases j with
            | zero => omega
            | succ j => exact c2 j z (by omega) (by simpa using hz)
      · refine ⟨0, false, Nat.zero_le _, fun e => (by cases e), fun _ => ⟨fun j z hj => absurd hj (Nat.not_lt_zero j), fun j z _ hz => ?_⟩⟩
        cases j with
        | zero => simp at hz; subst hz; omega
        | succ j =>
          have h2 := h.head z (List.mem_of_getElem? (by simpa using hz))
          have h3 := lf.swap y z
          have h4 := lf.swap x z
          have h5 := lf.swap y x
          by_cases h6 : f z x < 0
          · have := lf.trans y z x h2 h6; omega
          · by_cases h7 : f z x = 0
            · have := lf.eqv' z x y h7; omega
            · omega
theorem Srt.insC (lf : LinCmp f) {ys : List α} (hs : Srt f ys) (x : α) : Srt f (insC f ys x) := by
  obtain ⟨k, t, h⟩ := hs.find lf x
  rw [← insC_of lf hs h]
  cases t with
  | true => exact hs
  | false => exact Srt.ins lf hs h
theorem length_insC (ys : List α) (x : α) : (insC f ys x).length = if hasC f ys x then ys.length else ys.length + 1 := by
  unfold insC hasC
  split
  · rfl
  · have h : (ys.takeWhile (fun y => decide (f y x < 0)) ++ ys.dropWhile (fun y => decide (f y x < 0))).length = ys.length := by rw [List.takeWhile_append_dropWhile]
    simp only [List.length_append, List.length_cons] at h ⊢
    omega
theorem length_insC_le (ys : List α) (x : α) : (insC f ys x).length ≤ ys.length + 1 := by rw [length_insC]; split <;> omega
theorem mem_insC {ys : List α} {x z : α} : z ∈ insC f ys x ↔ z ∈ ys ∨ (hasC f ys x = false ∧ z = x) := by
  unfold insC hasC
  cases hc : ys.any (fun y => decide (f y x = 0)) with
  | true => simp
  | false =>
    simp only [Bool.false_eq_true, if_false, true_and]
    have h : ∀ z, z ∈ ys ↔ z ∈ ys.takeWhile (fun y => decide (f y x < 0)) ++ ys.dropWhile (fun y => decide (f y x < 0)) := fun z => by rw [List.takeWhile_append_dropWhile]
    rw [h z]
    simp only [List.mem_append, List.mem_cons]
    exact ⟨fun h => by rcases h with h | h | h <;> simp [h], fun h => by rcases h with (h | h) | h <;> simp [h]⟩
theorem Srt.uniq (lf : LinCmp f) {ys : List α} (hs : Srt f ys) {a b : α} (ha : a ∈ ys) (hb : b ∈ ys) (e : f a b = 0) : a = b := by
  obtain ⟨i, hi⟩ := List.mem_iff_getElem?.1 ha
  obtain ⟨j, hj⟩ := List.mem_iff_getElem?.1 hb
  by_cases h1 : i < j
  · have := hs i j a b h1 hi hj; omega
  · by_cases h2 : j < i
    · have := hs j i b a h2 hj hi
      have h3 := lf.swap a b; omega
    · have : i = j := by omega
      subst this; rw [hi] at hj; cases hj; rfl
theorem delC_of (lf : LinCmp f) {ys : List α} {x : α} {k : Nat} {there : Bool} (hs : Srt f ys) (h : FindR f ys x k there) : cond there (ys.eraseIdx k) ys = delC f ys x := by
  unfold delC
  cases there with
  | false =>
    have h1 := hasC_of h
    rw [cond_false, List.filter_eq_self.2]
    intro y hy
    have := List.any_eq_false.1 h1 y hy
    simpa using this
  | true =>
    obtain ⟨y, hy, e⟩ := h.2.1 rfl
    rw [cond_true]
    have hk := (List.getElem?_eq_some_iff.1 hy).1
    rw [List.eraseIdx_eq_take_drop_succ]
    have hsp : ys = ys.take k ++ y :: ys.drop (k + 1) := by
      conv => lhs; rw [← List.take_append_drop k ys]
      congr 1
      rw [List.drop_eq_getElem_cons hk]
      rw [List.getElem?_eq_getElem hk] at hy
      cases hy; rfl
    conv => rhs; rw [hsp]
    rw [List.filter_append, List.filter_cons, if_neg (by simpa using e)]
    have hne : ∀ z j, ys[j]? = some z → j ≠ k → f z x ≠ 0 := fun z j hj hjk e2 => by
      have e3 : f z y = 0 := by rw [lf.eqv' y x z e]; exact e2
      have := hs.uniq lf (List.mem_of_getElem? hj) (List.mem_of_getElem? hy) e3
      subst this
      by_cases h1 : j < k
      · have := hs j k z z h1 hj hy; have := lf.refl z; omega
      · have := hs k j z z (by omega) hy hj; have := lf.refl z; omega
    congr 1
    · symm
      rw [List.filter_eq_self]
      intro z hz
      obtain ⟨j, hj⟩ := List.mem_iff_getElem?.1 hz
      rw [List.getElem?_take] at hj
      split at hj
      · have := hne z j hj (by omega)
        simpa using this
      · cases hj
    · symm
      rw [List.filter_eq_self]
      intro z hz
      obtain ⟨j, hj⟩ := List.mem_iff_getElem?.1 hz
      rw [List.getElem?_drop] at hj
      have := hne z (k + 1 + j) hj (by omega)
      simpa using this
theorem mem_delC {ys : List α} {x z : α} : z ∈ delC f ys x ↔ z ∈ ys ∧ f z x ≠ 0 := by simp [delC, List.mem_filter]
/-- Two sorted lists with the same members are the same. -/
theorem Srt.ext (lf : LinCmp f) : ∀ {xs ys : List α}, Srt f xs → Srt f ys → (∀ z, z ∈ xs ↔ z ∈ ys) → xs = ys
  | [], [], _, _, _ => rfl
  | [], y :: ys, _, _, h => by have := (h y).2 List.mem_cons_self; cases this
  | x :: xs, [], _, _, h => by have := (h x).1 List.mem_cons_self; cases this
  | x :: xs, y :: ys, hx, hy, h => by
    have e : x = y := by
      rcases List.mem_cons.1 ((h x).1 List.mem_cons_self) with e | e
      · exact e
      · rcases List.mem_cons.1 ((h y).2 List.mem_cons_self) with e2 | e2
        · exact e2.symm
        · have h1 := hy.head x e
          have h2 := hx.head y e2
          have h3 := lf.swap x y
          omega
    subst e
    congr 1
    refine Srt.ext lf hx.tail hy.tail fun z => ⟨fun hz => ?_, fun hz => ?_⟩
    · rcases List.mem_cons.1 ((h z).1 (List.mem_cons_of_mem _ hz)) with e | e
      · subst e; have := hx.head z hz; have := lf.refl z; omega
      · exact e
    · rcases List.mem_cons.1 ((h z).2 (List.mem_cons_of_mem _ hz)) with e | e
      · subst e; have := hy.head z hz; have := lf.refl z; omega
      · exact e
theorem getM_mem {ys : List α} {x y : α} (h : getM f ys x = some y) : y ∈ ys ∧ f y x = 0 := ⟨List.mem_of_find?_eq_some h, by simpa using List.find?_some h⟩
theorem getM_of (lf : LinCmp f) {ys : List α} (hs : Srt f ys) {x y : α} (hy : y ∈ ys) (e : f y x = 0) : getM f ys x = some y := by
  cases h : getM f ys x with
  | none =>
    have := List.find?_eq_none.1 h y hy
    simp [e] at this
  | some z =>
    obtain ⟨h1, h2⟩ := getM_mem h
    rw [hs.uniq lf h1 hy (by rw [lf.eqv' y x z e]; exact h2)]
theorem getM_isSome {ys : List α} {x : α} : (getM f ys x).isSome = hasC f ys x := by
  unfold getM hasC
  rw [Bool.eq_iff_iff, List.find?_isSome, List.any_eq_true]
end
theorem hasC_insC {α : Type} {f : α → α → Int} (lf : LinCmp f) (ys : List α) (z x : α) : hasC f (insC f ys z) x = (hasC f ys x || decide (f z x = 0)) := by
  rw [Bool.eq_iff_iff, Bool.or_eq_true, decide_eq_true_eq]
  unfold hasC
  rw [List.any_eq_true, List.any_eq_true]
  constructor
  · rintro ⟨y, hy, e⟩
    rcases mem_insC.1 hy with h | ⟨_, rfl⟩
    · exact .inl ⟨y, h, e⟩
    · exact .inr (by simpa using e)
  · rintro (⟨y, hy, e⟩ | e)
    · exact ⟨y, mem_insC.2 (.inl hy), e⟩
    · cases hc : hasC f ys z with
      | false => exact ⟨z, mem_insC.2 (.inr ⟨hc, rfl⟩), by simpa using e⟩
      | true =>
        obtain ⟨y, hy, e2⟩ := List.any_eq_true.1 hc
        refine ⟨y, mem_insC.2 (.inl hy), ?_⟩
        have e2 : f y z = 0 := by simpa using e2
        have := lf.eqv y z x e2
        simp only [decide_eq_true_eq]
        omega
theorem hasC_fold {α : Type} {f : α → α → Int} (lf : LinCmp f) : ∀ (l a : List α) (x : α), hasC f (l.foldl (insC f) a) x = (hasC f a x || hasC f l x)
  | [], a, x => by simp [hasC]
  | z :: l, a, x => by
    rw [List.foldl_cons, hasC_fold lf l _ x, hasC_insC lf]
    simp [hasC, Bool.or_assoc]
end Go.Proofs.Ytdpbjoldgiikkaa
/- Numbers and elements as cells. -/
namespace Go.Proofs.Ytdpbjoldgiikkaa
open Go Go.Sl

def encI (m : Int) : List Value := [.int .i64 m]
instance : EncLen encI 1 := ⟨fun _ => rfl, fun _ u h => by simp [encI] at h; subst h; rfl⟩
def encS (s : SymD) : List Value := s.val.cells.toList
instance : EncLen encS 3 := ⟨fun _ => rfl, fun e u h => by simp [encS, SymD.val, Value.cells] at h; rcases h with h | h | h <;> subst h <;> rfl⟩
def encE (e : ElemD) : List Value := e.val.cells.toList
instance : EncLen encE 12 := ⟨fun _ => rfl, fun e u h => by simp [encE, ElemD.val, Value.cells] at h; rcases h with h | h | h | h | h | h | h | h | h | h | h | h <;> subst h <;> rfl⟩
theorem take_snoc {α : Type} (ys : List α) (i : Nat) (y : α) (h : ys[i]? = some y) : ys.take (i + 1) = ys.take i ++ [y] := by rw [List.take_add_one, h]; rfl

end Go.Proofs.Ytdpbjoldgiikkaa
/- Elements held against each other. -/
namespace Go.Proofs.Ytdpbjoldgiikkaa
open Go Go.Sl
attribute [local irreducible] Code.wpIn roundPost bodyPostM runL Ret Meets Begin

def cmpB (a b : Bool) : Int := if a = b then 0 else if b then -1 else 1
theorem linB : LinCmp cmpB := ⟨fun a b => by cases a <;> cases b <;> rfl, fun a b c => by cases a <;> cases b <;> cases c <;> decide, fun a b c => by cases a <;> cases b <;> cases c <;> decide⟩
theorem cmpB_zero {a b : Bool} (h : cmpB a b = 0) : a = b := by cases a <;> cases b <;> first | rfl | cases h
def ElemD.cmp : ElemD → ElemD → Int := lex (fun a b => a.id.cmp b.id) (lex (fun a b => a.attr.cmp b.attr) (lex (fun a b => a.value.cmp b.value) (fun a b => cmpB a.acc b.acc)))
theorem linElem : LinCmp ElemD.cmp := (linSym.pull ElemD.id).lex ((linSym.pull ElemD.attr).lex ((linSym.pull ElemD.value).lex (linB.pull ElemD.acc)))
theorem SymD.cmp_self (a : SymD) : a.cmp a = 0 := linSym.refl a
theorem SymD.cmp_iff {a b : SymD} : a.cmp b = 0 ↔ a = b := ⟨SymD.cmp_zero, fun h => h ▸ SymD.cmp_self a⟩
theorem ElemD.cmp_iff {a b : ElemD} : a.cmp b = 0 ↔ a.id = b.id ∧ a.attr = b.attr ∧ a.value = b.value ∧ a.acc = b.acc := by
  simp only [ElemD.cmp, lex]
  constructor
  · intro h
    by_cases h1 : a.id.cmp b.id = 0
    · rw [if_pos h1] at h
      by_cases h2 : a.attr.cmp b.attr = 0
      · rw [if_pos h2] at h
        by_cases h3 : a.value.cmp b.value = 0
        · rw [if_pos h3] at h
          exact ⟨SymD.cmp_zero h1, SymD.cmp_zero h2, SymD.cmp_zero h3, cmpB_zero h⟩
        · rw [if_neg h3] at h; exact absurd h h3
      · rw [if_neg h2] at h; exact absurd h h2
    · rw [if_neg h1] at h; exact absurd h h1
  · rintro ⟨h1, h2, h3, h4⟩
    have e1 : a.id.cmp b.id = 0 := SymD.cmp_iff.2 h1
    have e2 : a.attr.cmp b.attr = 0 := SymD.cmp_iff.2 h2
    have e3 : a.value.cmp b.value = 0 := SymD.cmp_iff.2 h3
    rw [if_pos e1, if_pos e2, if_pos e3]
    simp [cmpB, h4]
theorem ElemD.beq_self (x : ElemD) : x.beq x = true := (ElemD.beq_iff x x).2 rfl
def ElemD.zero : ElemD := ⟨⟨0, ByteArray.empty, 0⟩, ⟨0, ByteArray.empty, 0⟩, ⟨0, ByteArray.empty, 0⟩, false, false, 0⟩
def SymD.zero : SymD := ⟨0, ByteArray.empty, 0⟩
end Go.Proofs.Ytdpbjoldgiikkaa
/- Elements held against each other, by the program. -/
namespace Go.Proofs.Ytdpbjoldgiikkaa
open Go Go.Sl
attribute [local irreducible] Code.wpIn roundPost bodyPostM runL Ret Meets Begin

theorem CompareElem_spec (a b : ElemD) : Ctr Try.prog 116 [a.val, b.val] [] (fun v M => v = .int .i64 (a.cmp b) ∧ M = []) := by
  refine spec_of Try.func116 rfl Try.ntmps116 rfl fun w0 F => ?_
  -- (ponder/api.Elem).Compare
  repeat (first | refine g_endt ?_ | refine g_end ?_ | refine g_then ?_ | refine g_in_normal ?_ | refine g_then_ret ?_ | refine g_in_ret ?_ | refine g_then_exit ?_ | refine g_in_exit rfl ?_ | refine g_in_exit_ne (by decide) ?_ | refine g_seq ?_ | refine g_region ?_ | refine g_block ?_ | refine g_ret ?_ | refine g_return_n ?_ | refine g_exit ?_ | refine g_skip ?_)
  refine o_boxc a.val.cells rfl rfl fun p => ?_
  refine o_boxc b.val.cells rfl rfl fun q => ?_
  refine o_assign ?_
  first | refine g_endt ?_ | refine g_end ?_
  repeat (first | refine g_endt ?_ | refine g_end ?_ | refine g_then ?_ | refine g_in_normal ?_ | refine g_then_ret ?_ | refine g_in_ret ?_ | refine g_then_exit ?_ | refine g_in_exit rfl ?_ | refine g_in_exit_ne (by decide) ?_ | refine g_seq ?_ | refine g_region ?_ | refine g_block ?_ | refine g_ret ?_ | refine g_return_n ?_ | refine g_exit ?_ | refine g_skip ?_)
  first | refine o_field rfl ?_ | refine o_fieldR rfl (by omega) ?_
  refine o_loadN (v := a.id.val) rfl rfl rfl ?_
  first | refine o_field rfl ?_ | refine o_fieldR rfl (by omega) ?_
  refine o_loadN (v := b.id.val) rfl rfl rfl ?_
  refine o_call (CompareSym_spec a.id b.id) rfl rfl ?_
  rintro _ _ ⟨rfl, rfl⟩
  refine o_assign ?_
  first | refine g_endt ?_ | refine g_end ?_
  repeat (first | refine g_endt ?_ | refine g_end ?_ | refine g_then ?_ | refine g_in_normal ?_ | refine g_then_ret ?_ | refine g_in_ret ?_ | refine g_then_exit ?_ | refine g_in_exit rfl ?_ | refine g_in_exit_ne (by decide) ?_ | refine g_seq ?_ | refine g_region ?_ | refine g_block ?_ | refine g_ret ?_ | refine g_return_n ?_ | refine g_exit ?_ | refine g_skip ?_)
  refine o_move ?_
  refine o_neq rfl rfl ?_
  first | refine g_endt ?_ | refine g_end ?_
  by_cases h1 : a.id.cmp b.id = 0
  · first | refine g_seq (g_cond_f rfl (by simpa using h1) ?_) | refine g_cond_f rfl (by simpa using h1) ?_
    repeat (first | refine g_endt ?_ | refine g_end ?_ | refine g_then ?_ | refine g_in_normal ?_ | refine g_then_ret ?_ | refine g_in_ret ?_ | refine g_then_exit ?_ | refine g_in_exit rfl ?_ | refine g_in_exit_ne (by decide) ?_ | refine g_seq ?_ | refine g_region ?_ | refine g_block ?_ | refine g_ret ?_ | refine g_return_n ?_ | refine g_exit ?_ | refine g_skip ?_)
    first | refine o_field rfl ?_ | refine o_fieldR rfl (by omega) ?_
    refine o_loadN (v := a.attr.val) rfl rfl rfl ?_
    first | refine o_field rfl ?_ | refine o_fieldR rfl (by omega) ?_
    refine o_loadN (v := b.attr.val) rfl rfl rfl ?_
    refine o_call (CompareSym_spec a.attr b.attr) rfl rfl ?_
    rintro _ _ ⟨rfl, rfl⟩
    refine o_assign ?_
    first | refine g_endt ?_ | refine g_end ?_
    repeat (first | refine g_endt ?_ | refine g_end ?_ | refine g_then ?_ | refine g_in_normal ?_ | refine g_then_ret ?_ | refine g_in_ret ?_ | refine g_then_exit ?_ | refine g_in_exit rfl ?_ | refine g_in_exit_ne (by decide) ?_ | refine g_seq ?_ | refine g_region ?_ | refine g_block ?_ | refine g_ret ?_ | refine g_return_n ?_ | refine g_exit ?_ | refine g_skip ?_)
    refine o_move ?_
    refine o_neq rfl rfl ?_
    first | refine g_endt ?_ | refine g_end ?_
    by_cases h2 : a.attr.cmp b.attr = 0
    · first | refine g_seq (g_cond_f rfl (by simpa using h2) ?_) | refine g_cond_f rfl (by simpa using h2) ?_
      repeat (first | refine g_endt ?_ | refine g_end ?_ | refine g_then ?_ | refine g_in_normal ?_ | refine g_then_ret ?_ | refine g_in_ret ?_ | refine g_then_exit ?_ | refine g_in_exit rfl ?_ | refine g_in_exit_ne (by decide) ?_ | refine g_seq ?_ | refine g_region ?_ | refine g_block ?_ | refine g_ret ?_ | refine g_return_n ?_ | refine g_exit ?_ | refine g_skip ?_)
      first | refine o_field rfl ?_ | refine o_fieldR rfl (by omega) ?_
      refine o_loadN (v := a.value.val) rfl rfl rfl ?_
      first | refine o_field rfl ?_ | refine o_fieldR rfl (by omega) ?_
      refine o_loadN (v := b.value.val) rfl rfl rfl ?_
      refine o_call (CompareSym_spec a.value b.value) rfl rfl ?_
      rintro _ _ ⟨rfl, rfl⟩
      refine o_assign ?_
      first | refine g_endt ?_ | refine g_end ?_
      repeat (first | refine g_endt ?_ | refine g_end ?_ | refine g_then ?_ | refine g_in_normal ?_ | refine g_then_ret ?_ | refine g_in_ret ?_ | refine g_then_exit ?_ | refine g_in_exit rfl ?_ | refine g_in_exit_ne (by decide) ?_ | refine g_seq ?_ | refine g_region ?_ | refine g_block ?_ | refine g_ret ?_ | refine g_return_n ?_ | refine g_exit ?_ | refine g_skip ?_)
      refine o_move ?_
      refine o_neq rfl rfl ?_
      first | refine g_endt ?_ | refine g_end ?_
      by_cases h3 : a.value.cmp b.value = 0
      · first | refine g_seq (g_cond_f rfl (by simpa using h3) ?_) | refine g_cond_f rfl (by simpa using h3) ?_
        repeat (first | refine g_endt ?_ | refine g_end ?_ | refine g_then ?_ | refine g_in_normal ?_ | refine g_then_ret ?_ | refine g_in_ret ?_ | refine g_then_exit ?_ | refine g_in_exit rfl ?_ | refine g_in_exit_ne (by decide) ?_ | refine g_seq ?_ | refine g_region ?_ | refine g_block ?_ | refine g_ret ?_ | refine g_return_n ?_ | refine g_exit ?_ | refine g_skip ?_)
        first | refine o_field rfl ?_ | refine o_fieldR rfl (by omega) ?_
        refine o_load1 (v := .bool a.acc) rfl rfl ?_
        first | refine o_field rfl ?_ | refine o_fieldR rfl (by omega) ?_
        refine o_load1 (v := .bool b.acc) rfl rfl ?_
        refine o_eqty rfl rfl (eq_bool a.acc b.acc) ?_
        refine o_assign ?_
        first | refine g_endt ?_ | refine g_end ?_
        by_cases h4 : a.acc = b.acc
        · first | refine g_seq (g_cond_t rfl (by simpa using h4) ?_) | refine g_cond_t rfl (by simpa using h4) ?_
          repeat (first | refine g_endt ?_ | refine g_end ?_ | refine g_then ?_ | refine g_in_normal ?_ | refine g_then_ret ?_ | refine g_in_ret ?_ | refine g_then_exit ?_ | refine g_in_exit rfl ?_ | refine g_in_exit_ne (by decide) ?_ | refine g_seq ?_ | refine g_region ?_ | refine g_block ?_ | refine g_ret ?_ | refine g_return_n ?_ | refine g_exit ?_ | refine g_skip ?_)
          refine o_assign ?_
          first | refine g_endt ?_ | refine g_end ?_
          repeat (first | refine g_endt ?_ | refine g_end ?_ | refine g_then ?_ | refine g_in_normal ?_ | refine g_then_ret ?_ | refine g_in_ret ?_ | refine g_then_exit ?_ | refine g_in_exit rfl ?_ | refine g_in_exit_ne (by decide) ?_ | refine g_seq ?_ | refine g_region ?_ | refine g_block ?_ | refine g_ret ?_ | refine g_return_n ?_ | refine g_exit ?_ | refine g_skip ?_)
          exact ret1 rfl (resT (v := .int .i64 0) rfl) ⟨by simp [ElemD.cmp, lex, h1, h2, h3, cmpB, h4], rfl⟩
        · first | refine g_seq (g_cond_f rfl (by simpa using h4) ?_) | refine g_cond_f rfl (by simpa using h4) ?_
          repeat (first | refine g_endt ?_ | refine g_end ?_ | refine g_then ?_ | refine g_in_normal ?_ | refine g_then_ret ?_ | refine g_in_ret ?_ | refine g_then_exit ?_ | refine g_in_exit rfl ?_ | refine g_in_exit_ne (by decide) ?_ | refine g_seq ?_ | refine g_region ?_ | refine g_block ?_ | refine g_ret ?_ | refine g_return_n ?_ | refine g_exit ?_ | refine g_skip ?_)
          first | refine o_field rfl ?_ | refine o_fieldR rfl (by omega) ?_
          refine o_load1 (v := .bool b.acc) rfl rfl ?_
          refine o_assign ?_
          first | refine g_endt ?_ | refine g_end ?_
          cases hb : b.acc with
          | true =>
            first | refine g_seq (g_cond_t rfl (by first | rfl | (simp; done) | (simp; omega) | (simp; assumption)) ?_) | refine g_cond_t rfl (by first | rfl | (simp; done) | (simp; omega) | (simp; assumption)) ?_
            repeat (first | refine g_endt ?_ | refine g_end ?_ | refine g_then ?_ | refine g_in_normal ?_ | refine g_then_ret ?_ | refine g_in_ret ?_ | refine g_then_exit ?_ | refine g_in_exit rfl ?_ | refine g_in_exit_ne (by decide) ?_ | refine g_seq ?_ | refine g_region ?_ | refine g_block ?_ | refine g_ret ?_ | refine g_return_n ?_ | refine g_exit ?_ | refine g_skip ?_)
            refine o_assign ?_
            first | refine g_endt ?_ | refine g_end ?_
            repeat (first | refine g_endt ?_ | refine g_end ?_ | refine g_then ?_ | refine g_in_normal ?_ | refine g_then_ret ?_ | refine g_in_ret ?_ | refine g_then_exit ?_ | refine g_in_exit rfl ?_ | refine g_in_exit_ne (by decide) ?_ | refine g_seq ?_ | refine g_region ?_ | refine g_block ?_ | refine g_ret ?_ | refine g_return_n ?_ | refine g_exit ?_ | refine g_skip ?_)
            exact ret1 rfl (resT (v := .int .i64 (-1)) rfl) ⟨by rw [hb] at h4; simp [ElemD.cmp, lex, h1, h2, h3, cmpB, h4, hb], rfl⟩
          | false =>
            first | refine g_seq (g_cond_f rfl (by first | rfl | (simp; done) | (simp; omega) | (simp; assumption)) ?_) | refine g_cond_f rfl (by first | rfl | (simp; done) | (simp; omega) | (simp; assumption)) ?_
            repeat (first | refine g_endt ?_ | refine g_end ?_ | refine g_then ?_ | refine g_in_normal ?_ | refine g_then_ret ?_ | refine g_in_ret ?_ | refine g_then_exit ?_ | refine g_in_exit rfl ?_ | refine g_in_exit_ne (by decide) ?_ | refine g_seq ?_ | refine g_region ?_ | refine g_block ?_ | refine g_ret ?_ | refine g_return_n ?_ | refine g_exit ?_ | refine g_skip ?_)
            refine o_assign ?_
            first | refine g_endt ?_ | refine g_end ?_
            repeat (first | refine g_endt ?_ | refine g_end ?_ | refine g_then ?_ | refine g_in_normal ?_ | refine g_then_ret ?_ | refine g_in_ret ?_ | refine g_then_exit ?_ | refine g_in_exit rfl ?_ | refine g_in_exit_ne (by decide) ?_ | refine g_seq ?_ | refine g_region ?_ | refine g_block ?_ | refine g_ret ?_ | refine g_return_n ?_ | refine g_exit ?_ | refine g_skip ?_)
            exact ret1 rfl (resT (v := .int .i64 1) rfl) ⟨by rw [hb] at h4; simp [ElemD.cmp, lex, h1, h2, h3, cmpB, h4, hb], rfl⟩
      · first | refine g_seq (g_cond_t rfl (by simpa using h3) ?_) | refine g_cond_t rfl (by simpa using h3) ?_
        repeat (first | refine g_endt ?_ | refine g_end ?_ | refine g_then ?_ | refine g_in_normal ?_ | refine g_then_ret ?_ | refine g_in_ret ?_ | refine g_then_exit ?_ | refine g_in_exit rfl ?_ | refine g_in_exit_ne (by decide) ?_ | refine g_seq ?_ | refine g_region ?_ | refine g_block ?_ | refine g_ret ?_ | refine g_return_n ?_ | refine g_exit ?_ | refine g_skip ?_)
        refine o_move ?_
        refine o_assign ?_
        first | refine g_endt ?_ | refine g_end ?_
        repeat (first | refine g_endt ?_ | refine g_end ?_ | refine g_then ?_ | refine g_in_normal ?_ | refine g_then_ret ?_ | refine g_in_ret ?_ | refine g_then_exit ?_ | refine g_in_exit rfl ?_ | refine g_in_exit_ne (by decide) ?_ | refine g_seq ?_ | refine g_region ?_ | refine g_block ?_ | refine g_ret ?_ | refine g_return_n ?_ | refine g_exit ?_ | refine g_skip ?_)
        exact ret1 rfl (resT (v := .int .i64 (a.value.cmp b.value)) rfl) ⟨by simp [ElemD.cmp, lex, h1, h2, h3], rfl⟩
    · first | refine g_seq (g_cond_t rfl (by simpa using h2) ?_) | refine g_cond_t rfl (by simpa using h2) ?_
      repeat (first | refine g_endt ?_ | refine g_end ?_ | refine g_then ?_ | refine g_in_normal ?_ | refine g_then_ret ?_ | refine g_in_ret ?_ | refine g_then_exit ?_ | refine g_in_exit rfl ?_ | refine g_in_exit_ne (by decide) ?_ | refine g_seq ?_ | refine g_region ?_ | refine g_block ?_ | refine g_ret ?_ | refine g_return_n ?_ | refine g_exit ?_ | refine g_skip ?_)
      refine o_move ?_
      refine o_assign ?_
      first | refine g_endt ?_ | refine g_end ?_
      repeat (first | refine g_endt ?_ | refine g_end ?_ | refine g_then ?_ | refine g_in_normal ?_ | refine g_then_ret ?_ | refine g_in_ret ?_ | refine g_then_exit ?_ | refine g_in_exit rfl ?_ | refine g_in_exit_ne (by decide) ?_ | refine g_seq ?_ | refine g_region ?_ | refine g_block ?_ | refine g_ret ?_ | refine g_return_n ?_ | refine g_exit ?_ | refine g_skip ?_)
      exact ret1 rfl (resT (v := .int .i64 (a.attr.cmp b.attr)) rfl) ⟨by simp [ElemD.cmp, lex, h1, h2], rfl⟩
  · first | refine g_seq (g_cond_t rfl (by simpa using h1) ?_) | refine g_cond_t rfl (by simpa using h1) ?_
    repeat (first | refine g_endt ?_ | refine g_end ?_ | refine g_then ?_ | refine g_in_normal ?_ | refine g_then_ret ?_ | refine g_in_ret ?_ | refine g_then_exit ?_ | refine g_in_exit rfl ?_ | refine g_in_exit_ne (by decide) ?_ | refine g_seq ?_ | refine g_region ?_ | refine g_block ?_ | refine g_ret ?_ | refine g_return_n ?_ | refine g_exit ?_ | refine g_skip ?_)
    refine o_move ?_
    refine o_assign ?_
    first | refine g_endt ?_ | refine g_end ?_
    repeat (first | refine g_endt ?_ | refine g_end ?_ | refine g_then ?_ | refine g_in_normal ?_ | refine g_then_ret ?_ | refine g_in_ret ?_ | refine g_then_exit ?_ | refine g_in_exit rfl ?_ | refine g_in_exit_ne (by decide) ?_ | refine g_seq ?_ | refine g_region ?_ | refine g_block ?_ | refine g_ret ?_ | refine g_return_n ?_ | refine g_exit ?_ | refine g_skip ?_)
    exact ret1 rfl (resT (v := .int .i64 (a.id.cmp b.id)) rfl) ⟨by simp [ElemD.cmp, lex, h1], rfl⟩
end Go.Proofs.Ytdpbjoldgiikkaa
/- Pages of an ordered map, for one type of keys and one of values. -/
namespace Go.Proofs.Ytdpbjoldgiikkaa
open Go Go.Sl
attribute [local irreducible] Code.wpIn roundPost bodyPostM runL Ret Meets Begin

structure PgSE where
  k : SymD
  v : Option Nat
def PgSE.vval (v : Option Nat) : Value := .pointer (v.map fun b => ⟨b, 0, none⟩)
def PgSE.val (p : PgSE) : Value := .agg #[.int .i64 p.k.kind, .string p.k.text, .int .i64 p.k.n, PgSE.vval p.v]
def PgSE.enc (p : PgSE) : List Value := p.val.cells.toList
/-- As an argument of a call: one value. -/
def PgSE.enc' (p : PgSE) : List Value := [p.val]
instance : EncLen PgSE.enc 4 := ⟨fun _ => rfl, fun e u h => by simp [PgSE.enc, PgSE.val, Value.cells] at h; rcases h with h | h | h | h <;> subst h <;> rfl⟩
def PgSE.cmp (a b : PgSE) : Int := a.k.cmp b.k
theorem PgSE.lin : LinCmp PgSE.cmp := linSym.pull PgSE.k
def PgSE.enc2 (p : PgSE) : List Value := [p.k.val, PgSE.vval p.v]
def PgSE.zero : PgSE := ⟨⟨0, ByteArray.empty, 0⟩, none⟩
theorem PgSE.cmp_spec (a b : PgSE) : Ctr Try.prog 128 [a.val, b.val] [] (fun v M => v = .int .i64 (a.cmp b) ∧ M = []) := by
  refine spec_of Try.func128 rfl Try.ntmps128 rfl fun w0 F => ?_
  repeat (first | refine g_endt ?_ | refine g_end ?_ | refine g_then ?_ | refine g_in_normal ?_ | refine g_then_ret ?_ | refine g_in_ret ?_ | refine g_then_exit ?_ | refine g_in_exit rfl ?_ | refine g_in_exit_ne (by decide) ?_ | refine g_seq ?_ | refine g_region ?_ | refine g_block ?_ | refine g_ret ?_ | refine g_return_n ?_ | refine g_exit ?_ | refine g_skip ?_)
  refine o_boxc a.val.cells rfl rfl fun p => ?_
  refine o_boxc b.val.cells rfl rfl fun q => ?_
  refine o_assign ?_
  first | refine g_endt ?_ | refine g_end ?_
  repeat (first | refine g_endt ?_ | refine g_end ?_ | refine g_then ?_ | refine g_in_normal ?_ | refine g_then_ret ?_ | refine g_in_ret ?_ | refine g_then_exit ?_ | refine g_in_exit rfl ?_ | refine g_in_exit_ne (by decide) ?_ | refine g_seq ?_ | refine g_region ?_ | refine g_block ?_ | refine g_ret ?_ | refine g_return_n ?_ | refine g_exit ?_ | refine g_skip ?_)
  refine o_field rfl ?_
  refine o_loadN (v := a.k.val) rfl rfl rfl ?_
  refine o_iface rfl (fun w => by kernel_rfl) ?_
  refine o_field rfl ?_
  refine o_loadN (v := b.k.val) rfl rfl rfl ?_
  refine o_invoke (CompareSym_spec a.k b.k) rfl rfl (fun w => by kernel_rfl) ?_
  rintro _ _ ⟨rfl, rfl⟩
  refine o_assign ?_
  first | refine g_endt ?_ | refine g_end ?_
  repeat (first | refine g_endt ?_ | refine g_end ?_ | refine g_then ?_ | refine g_in_normal ?_ | refine g_then_ret ?_ | refine g_in_ret ?_ | refine g_then_exit ?_ | refine g_in_exit rfl ?_ | refine g_in_exit_ne (by decide) ?_ | refine g_seq ?_ | refine g_region ?_ | refine g_block ?_ | refine g_ret ?_ | refine g_return_n ?_ | refine g_exit ?_ | refine g_skip ?_)
  exact ret1 rfl (resT (v := .int .i64 (a.cmp b)) rfl) ⟨rfl, rfl⟩
end Go.Proofs.Ytdpbjoldgiikkaa
/- Elements by a key, and in an index of ordered sets: the plain theory. -/
namespace Go.Proofs.Ytdpbjoldgiikkaa
open Go Go.Sl

/-- A key that elements which are one share. -/
def Resp (f : ElemD → SymD) : Prop := ∀ a b : ElemD, a.cmp b = 0 → f a = f b
theorem resp_id : Resp ElemD.id := fun _ _ h => (ElemD.cmp_iff.1 h).1
theorem resp_attr : Resp ElemD.attr := fun _ _ h => (ElemD.cmp_iff.1 h).2.1
def keyD (f : ElemD → SymD) (ys : List ElemD) (k : SymD) : List ElemD := ys.filter fun e => (f e).beq k
theorem mem_keyD {f : ElemD → SymD} {ys : List ElemD} {k : SymD} {z : ElemD} : z ∈ keyD f ys k ↔ z ∈ ys ∧ f z = k := by
  unfold keyD; rw [List.mem_filter, SymD.beq_iff]
theorem keyD_srt {f : ElemD → SymD} {ys : List ElemD} (h : Srt ElemD.cmp ys) (k : SymD) : Srt ElemD.cmp (keyD f ys k) := h.filter _
theorem keyD_len (f : ElemD → SymD) (ys : List ElemD) (k : SymD) : (keyD f ys k).length ≤ ys.length := List.length_filter_le _ _
theorem hasC_mono {ys zs : List ElemD} {e : ElemD} (h : ∀ z ∈ zs, z ∈ ys) (hn : hasC ElemD.cmp ys e = false) : hasC ElemD.cmp zs e = false := by
  unfold hasC at hn ⊢
  rw [List.any_eq_false] at hn ⊢
  exact fun z hz => hn z (h z hz)
theorem keyD_ins {f : ElemD → SymD} {ys : List ElemD} (hs : Srt ElemD.cmp ys) {e : ElemD} (hn : hasC ElemD.cmp ys e = false) : keyD f (insC ElemD.cmp ys e) (f e) = insC ElemD.cmp (keyD f ys (f e)) e := by
  have hn2 : hasC ElemD.cmp (keyD f ys (f e)) e = false := hasC_mono (fun z hz => (mem_keyD.1 hz).1) hn
  refine (keyD_srt (hs.insC linElem e) _).ext linElem ((keyD_srt hs _).insC linElem e) fun z => ?_
  rw [mem_keyD, mem_insC, mem_insC, mem_keyD]
  constructor
  · rintro ⟨h | ⟨_, rfl⟩, h2⟩
    · exact .inl ⟨h, h2⟩
    · exact .inr ⟨hn2, rfl⟩
  · rintro (⟨h, h2⟩ | ⟨_, rfl⟩)
    · exact ⟨.inl h, h2⟩
    · exact ⟨.inr ⟨hn, rfl⟩, rfl⟩
theorem keyD_ins_ne {f : ElemD → SymD} {ys : List ElemD} (hs : Srt ElemD.cmp ys) {e : ElemD} {k : SymD} (hk : k ≠ f e) : keyD f (insC ElemD.cmp ys e) k = keyD f ys k := by
  refine (keyD_srt (hs.insC linElem e) _).ext linElem (keyD_srt hs _) fun z => ?_
  rw [mem_keyD, mem_keyD, mem_insC]
  constructor
  · rintro ⟨h | ⟨_, rfl⟩, h2⟩
    · exact ⟨h, h2⟩
    · exact absurd h2.symm hk
  · rintro ⟨h, h2⟩; exact ⟨.inl h, h2⟩
theorem keyD_del (f : ElemD → SymD) (ys : List ElemD) (e : ElemD) (k : SymD) : keyD f (delC ElemD.cmp ys e) k = delC ElemD.cmp (keyD f ys k) e := by
  unfold keyD delC
  rw [List.filter_filter, List.filter_filter]
  congr 1; funext z; rw [Bool.and_comm]
theorem keyD_del_ne {f : ElemD → SymD} (hf : Resp f) (ys : List ElemD) {e : ElemD} {k : SymD} (hk : k ≠ f e) : keyD f (delC ElemD.cmp ys e) k = keyD f ys k := by
  rw [keyD_del]
  unfold delC
  rw [List.filter_eq_self]
  intro z hz
  have h1 := (mem_keyD.1 hz).2
  have : ¬ z.cmp e = 0 := fun h => hk (h1 ▸ hf z e h)
  simpa using this
theorem keyD_none {f : ElemD → SymD} {ys : List ElemD} {k : SymD} (h : ∀ e ∈ ys, f e ≠ k) : keyD f ys k = [] := by
  rw [List.eq_nil_iff_forall_not_mem]
  exact fun z hz => h z (mem_keyD.1 hz).1 (mem_keyD.1 hz).2
theorem insC_perm {α : Type} {f : α → α → Int} {ys : List α} {x : α} (h : hasC f ys x = false) : (x :: ys).Perm (insC f ys x) := by
  unfold insC
  unfold hasC at h
  rw [if_neg (by rw [h]; simp)]
  refine List.Perm.trans ?_ List.perm_middle.symm
  rw [List.takeWhile_append_dropWhile]

/-! ### An index -/
structure IdxI (zs : List PgSE) (f : ElemD → SymD) (ys : List ElemD) : Prop where
  srt : Srt PgSE.cmp zs
  ptr : ∀ p ∈ zs, p.v ≠ none
  has : ∀ s, hasC PgSE.cmp zs ⟨s, none⟩ = true ↔ ∃ e ∈ ys, f e = s
theorem IdxI.nil (f : ElemD → SymD) : IdxI [] f [] := ⟨Srt.nil, by simp, fun s => by simp [hasC]⟩
theorem PgSE.cmp_iff {a b : PgSE} : PgSE.cmp a b = 0 ↔ a.k = b.k := SymD.cmp_iff
theorem nd_len {α : Type} : ∀ {l m : List α}, l.Pairwise (fun a b => a ≠ b) → (∀ x ∈ l, x ∈ m) → l.length ≤ m.length
  | [], _, _, _ => Nat.zero_le _
  | y :: l, m, hs, h => by
    obtain ⟨s, t, rfl⟩ := List.append_of_mem (h y List.mem_cons_self)
    rw [List.pairwise_cons] at hs
    have ih := nd_len (m := s ++ t) hs.2 fun x hx => by
      have hne := hs.1 x hx
      have := h x (List.mem_cons_of_mem _ hx)
      simp only [List.mem_append, List.mem_cons] at this ⊢
      rcases this with h | h | h
      · exact .inl h
      · exact absurd h.symm hne
      · exact .inr h
    simp only [List.length_append, List.length_cons] at ih ⊢
    omega
theorem IdxI.len {zs : List PgSE} {f : ElemD → SymD} {ys : List ElemD} (h : IdxI zs f ys) : zs.length ≤ ys.length := by
  have h1 := nd_len (l := zs.map PgSE.k) (m := ys.map f) (by
    rw [List.pairwise_map, List.pairwise_iff_getElem]
    intro i j hi hj hij e
    have := h.srt i j zs[i] zs[j] hij (List.getElem?_eq_getElem hi) (List.getElem?_eq_getElem hj)
    have e2 : PgSE.cmp zs[i] zs[j] = 0 := PgSE.cmp_iff.2 e
    omega) fun s hs => by
    obtain ⟨p, hp, rfl⟩ := List.mem_map.1 hs
    obtain ⟨e, he, r⟩ := (h.has p.k).1 (List.any_eq_true.2 ⟨p, hp, decide_eq_true (PgSE.cmp_iff.2 rfl)⟩)
    exact List.mem_map.2 ⟨e, he, r⟩
  simpa using h1
theorem IdxI.old {zs : List PgSE} {f : ElemD → SymD} {ys : List ElemD} (h : IdxI zs f ys) {e : ElemD} (he : hasC PgSE.cmp zs ⟨f e, none⟩ = true) : IdxI zs f (insC ElemD.cmp ys e) :=
  ⟨h.srt, h.ptr, fun s => by
    rw [h.has s]
    constructor
    · rintro ⟨x, hx, r⟩; exact ⟨x, mem_insC.2 (.inl hx), r⟩
    · rintro ⟨x, hx, r⟩
      rcases mem_insC.1 hx with hx | ⟨_, rfl⟩
      · exact ⟨x, hx, r⟩
      · rw [← r]; exact (h.has _).1 he⟩
theorem IdxI.new {zs : List PgSE} {f : ElemD → SymD} {ys : List ElemD} (h : IdxI zs f ys) {e : ElemD} (hn : hasC ElemD.cmp ys e = false) (b : Nat) : IdxI (insC PgSE.cmp zs ⟨f e, some b⟩) f (insC ElemD.cmp ys e) :=
  ⟨h.srt.insC PgSE.lin _, fun p hp => by
    rcases mem_insC.1 hp with hp | ⟨_, rfl⟩
    · exact h.ptr p hp
    · simp, fun s => by
    rw [hasC_insC PgSE.lin, Bool.or_eq_true, h.has s, decide_eq_true_eq, PgSE.cmp_iff]
    constructor
    · rintro (⟨x, hx, r⟩ | r)
      · exact ⟨x, mem_insC.2 (.inl hx), r⟩
      · exact ⟨e, mem_insC.2 (.inr ⟨hn, rfl⟩), r⟩
    · rintro ⟨x, hx, r⟩
      rcases mem_insC.1 hx with hx | ⟨_, rfl⟩
      · exact .inl ⟨x, hx, r⟩
      · exact .inr r⟩
/-- What a key has, and the others. -/
theorem IdxI.get {zs : List PgSE} {f : ElemD → SymD} {ys : List ElemD} (h : IdxI zs f ys) {k : SymD} {p : PgSE} (hp : getM PgSE.cmp zs ⟨k, none⟩ = some p) : ∃ b us, p = ⟨k, some b⟩ ∧ zs.Perm (⟨k, some b⟩ :: us) ∧ (∀ q ∈ us, q.k ≠ k) ∧ delC PgSE.cmp zs ⟨k, none⟩ = us := by
  obtain ⟨h1, h2⟩ := getM_mem hp
  have hk : p.k = k := SymD.cmp_zero h2
  obtain ⟨pk, pv⟩ := p
  dsimp only at hk
  subst hk
  cases pv with
  | none => exact absurd rfl (h.ptr _ h1)
  | some b =>
    obtain ⟨s, t, rfl⟩ := List.append_of_mem h1
    have hne : ∀ q ∈ s ++ t, q.k ≠ pk := fun q hq e => by
      have hs := h.srt
      have e0 : PgSE.cmp q ⟨pk, some b⟩ = 0 := SymD.cmp_iff.2 e
      rcases List.mem_append.1 hq with hq | hq
      · obtain ⟨i, hi⟩ := List.mem_iff_getElem?.1 hq
        have hil := (List.getElem?_eq_some_iff.1 hi).1
        have := hs i s.length q ⟨pk, some b⟩ hil (by rw [List.getElem?_append_left hil]; exact hi) (by simp)
        omega
      · obtain ⟨i, hi⟩ := List.mem_iff_getElem?.1 hq
        have := hs s.length (s.length + 1 + i) ⟨pk, some b⟩ q (by omega) (by simp) (by
          rw [List.getElem?_append_right (by omega), show s.length + 1 + i - s.length = i + 1 by omega]; simpa using hi)
        have e1 : PgSE.cmp ⟨pk, some b⟩ q = 0 := SymD.cmp_iff.2 e.symm
        omega
    refine ⟨b, s ++ t, rfl, List.perm_middle, hne, ?_⟩
    unfold delC
    rw [List.filter_append, List.filter_cons, if_neg (by simp [PgSE.cmp_iff]), ← List.filter_append, List.filter_eq_self]
    intro q hq
    have := hne q hq
    simpa [PgSE.cmp_iff] using this
theorem IdxI.keep {zs : List PgSE} {f : ElemD → SymD} (hf : Resp f) {ys : List ElemD} (h : IdxI zs f ys) {e : ElemD} (hk : keyD f (delC ElemD.cmp ys e) (f e) ≠ []) : IdxI zs f (delC ElemD.cmp ys e) :=
  ⟨h.srt, h.ptr, fun s => by
    rw [h.has s]
    constructor
    · rintro ⟨x, hx, r⟩
      by_cases hx2 : x.cmp e = 0
      · obtain ⟨z, hz⟩ := List.exists_mem_of_ne_nil _ hk
        obtain ⟨h1, h2⟩ := mem_keyD.1 hz
        exact ⟨z, h1, by rw [h2, ← r, hf x e hx2]⟩
      · exact ⟨x, mem_delC.2 ⟨hx, hx2⟩, r⟩
    · rintro ⟨x, hx, r⟩; exact ⟨x, (mem_delC.1 hx).1, r⟩⟩
theorem IdxI.gone {zs : List PgSE} {f : ElemD → SymD} (hf : Resp f) {ys : List ElemD} (h : IdxI zs f ys) {e : ElemD} (hk : keyD f (delC ElemD.cmp ys e) (f e) = []) : IdxI (delC PgSE.cmp zs ⟨f e, none⟩) f (delC ElemD.cmp ys e) :=
  ⟨h.srt.filter _, fun p hp => h.ptr p (mem_delC.1 hp).1, fun s => by
    have hd : hasC PgSE.cmp (delC PgSE.cmp zs ⟨f e, none⟩) ⟨s, none⟩ = true ↔ hasC PgSE.cmp zs ⟨s, none⟩ = true ∧ s ≠ f e := by
      unfold hasC
      rw [List.any_eq_true, List.any_eq_true]
      constructor
      · rintro ⟨q, hq, hc⟩
        obtain ⟨h1, h2⟩ := mem_delC.1 hq
        have hc' : q.k = s := PgSE.cmp_iff.1 (of_decide_eq_true hc)
        exact ⟨⟨q, h1, hc⟩, fun e2 => h2 (PgSE.cmp_iff.2 (hc'.trans e2))⟩
      · rintro ⟨⟨q, hq, hc⟩, hne⟩
        have hc' : q.k = s := PgSE.cmp_iff.1 (of_decide_eq_true hc)
        exact ⟨q, mem_delC.2 ⟨hq, fun e2 => hne (hc'.symm.trans (PgSE.cmp_iff.1 e2))⟩, hc⟩
    rw [hd, h.has s]
    constructor
    · rintro ⟨⟨x, hx, r⟩, hne⟩
      exact ⟨x, mem_delC.2 ⟨hx, fun e2 => hne (r ▸ hf x e e2)⟩, r⟩
    · rintro ⟨x, hx, r⟩
      refine ⟨⟨x, (mem_delC.1 hx).1, r⟩, fun e2 => ?_⟩
      have : x ∈ keyD f (delC ElemD.cmp ys e) (f e) := mem_keyD.2 ⟨hx, r.trans e2⟩
      rw [hk] at this; cases this⟩
end Go.Proofs.Ytdpbjoldgiikkaa
/- An ordered set's functions, for one type of members: find, own. -/
namespace Go.Proofs.Ytdpbjoldgiikkaa
open Go Go.Sl
attribute [local irreducible] Code.wpIn roundPost bodyPostM runL Ret Meets Begin

abbrev SetASE (p : Nat) (ys : List PgSE) : SProp := SetP 129 113 PgSE.enc 4 p ys
section
variable {w0 : World} {A : SProp} {L M : List SProp} {Φ : World → Prop}
theorem openSE (p : Nat) (ys : List PgSE) [tk : Take1 L (SetASE p ys) M] (h : ∀ S c b, G w0 A (cellsB p #[.slice S ys.length c, .bool b] 129 :: row 113 PgSE.enc 4 b S c ys :: M) Φ) : G w0 A L Φ := SetP.open h
theorem shutSE (p : Nat) (ys : List PgSE) (S : Option Addr) (c : Nat) (b : Bool) {len : Nat} (hl : ys.length = len) [tk : Take L [cellsB p #[.slice S len c, .bool b] 129, row 113 PgSE.enc 4 b S c ys] M] (h : G w0 A (SetASE p ys :: M) Φ) : G w0 A L Φ := SetP.shut (S := S) (c := c) (b := b) hl h
theorem shutFSE (p : Nat) (ys : List PgSE) (S : Option Addr) (c : Nat) {len : Nat} (hl : ys.length = len) [tk : Take L [cellsB p #[.slice S len c, .bool false] 129, osl 113 PgSE.enc 4 S c ys] M] (h : G w0 A (SetASE p ys :: M) Φ) : G w0 A L Φ := SetP.shut (S := S) (c := c) (b := false) hl (tk := tk) h
theorem shutTSE (p : Nat) (ys : List PgSE) (S : Option Addr) (c : Nat) {len : Nat} (hl : ys.length = len) [tk : Take L [cellsB p #[.slice S len c, .bool true] 129, psl PgSE.enc 4 S ys] M] (h : G w0 A (SetASE p ys :: M) Φ) : G w0 A L Φ := SetP.shut (S := S) (c := c) (b := true) hl (tk := tk) h
end
theorem findSE_spec (p : Nat) (ys : List PgSE) (x : PgSE) (hs : Srt PgSE.cmp ys) (hl : ys.length ≤ 1000000000) : Ctr Try.prog 94 [.pointer (some ⟨p, 0, none⟩), x.val] [SetASE p ys]
    (fun v M => ∃ (k : Nat) (there : Bool), v = .tuple #[.int .i64 (k : Int), .bool there] ∧ M = [SetASE p ys] ∧ FindR PgSE.cmp ys x k there) := by
  refine spec_of Try.func94 rfl Try.ntmps94 rfl fun w0 F => ?_
  repeat (first | refine g_endt ?_ | refine g_end ?_ | refine g_then ?_ | refine g_in_normal ?_ | refine g_then_ret ?_ | refine g_in_ret ?_ | refine g_then_exit ?_ | refine g_in_exit rfl ?_ | refine g_in_exit_ne (by decide) ?_ | refine g_seq ?_ | refine g_region ?_ | refine g_block ?_ | refine g_ret ?_ | refine g_return_n ?_ | refine g_exit ?_ | refine g_skip ?_)
  refine openSE p ys fun S c b => ?_
  refine o_boxc x.val.cells rfl rfl fun q => ?_
  refine o_assign ?_
  refine o_assign ?_
  first | refine g_endt ?_ | refine g_end ?_
  repeat (first | refine g_endt ?_ | refine g_end ?_ | refine g_then ?_ | refine g_in_normal ?_ | refine g_then_ret ?_ | refine g_in_ret ?_ | refine g_then_exit ?_ | refine g_in_exit rfl ?_ | refine g_in_exit_ne (by decide) ?_ | refine g_seq ?_ | refine g_region ?_ | refine g_block ?_ | refine g_ret ?_ | refine g_return_n ?_ | refine g_exit ?_ | refine g_skip ?_)
  refine g_draw [] [0,1,2,3,4,5,6] [cellsB p #[.slice S ys.length c, .bool b] 129] mixed rfl ?_
  refine ob_q rfl rfl ⟨_, fun X Q h => o_move (g_end (h _ _ ⟨rfl, rfl⟩)), ?_⟩
  refine ob_q rfl rfl ⟨_, fun X Q h => o_nil rfl (g_end (h _ _ ⟨rfl, rfl⟩)), ?_⟩
  refine ob_q rfl rfl ⟨_, fun X Q h => o_field rfl (g_end (h _ _ ⟨rfl, rfl⟩)), ?_⟩
  refine ob_q rfl rfl ⟨_, fun X Q h => o_load1 rfl rfl (g_end (h _ _ ⟨rfl, rfl⟩)), ?_⟩
  refine ob_q rfl rfl ⟨_, fun X Q h => o_len rfl rfl (g_end (h _ _ ⟨rfl, rfl⟩)), ?_⟩
  refine ob_q rfl rfl ⟨_, fun X Q h => o_assign (g_end (h _ _ ⟨rfl, rfl⟩)), ?_⟩
  refine ob_q rfl rfl ⟨_, fun X Q h => o_assign (g_end (h _ _ ⟨rfl, rfl⟩)), ?_⟩
  refine ob_nil ?_
  repeat (first | refine g_endt ?_ | refine g_end ?_ | refine g_then ?_ | refine g_in_normal ?_ | refine g_then_ret ?_ | refine g_in_ret ?_ | refine g_then_exit ?_ | refine g_in_exit rfl ?_ | refine g_in_exit_ne (by decide) ?_ | refine g_seq ?_ | refine g_region ?_ | refine g_block ?_ | refine g_ret ?_ | refine g_return_n ?_ | refine g_exit ?_ | refine g_skip ?_)
  refine g_loop (σ := {s : Nat × Nat // s.1 ≤ s.2 ∧ s.2 ≤ ys.length ∧ (∀ (j : Nat) (y : PgSE), j < s.1 → ys[j]? = some y → PgSE.cmp y x < 0) ∧ ∀ (j : Nat) (y : PgSE), s.2 ≤ j → ys[j]? = some y → 0 < PgSE.cmp y x})
    (S := fun s => [(0, .pointer (some ⟨p, 0, none⟩)), (3, .pointer (some ⟨q, 0, none⟩)), (6, .int .i64 (s.1.1 : Int)), (7, .int .i64 (s.1.2 : Int))])
    (H := fun _ => [cellsB p #[.slice S ys.length c, .bool b] 129, row 113 PgSE.enc 4 b S c ys, cellsB q x.val.cells 113]) (μ := fun s => s.1.2 - s.1.1)
    (s0 := ⟨(0, ys.length), Nat.zero_le _, Nat.le_refl _, fun j y h => absurd h (Nat.not_lt_zero j), fun j y h e => by rw [List.getElem?_eq_none h] at e; cases e⟩) (Sat.mem ⟨rfl, rfl, rfl, rfl, trivial⟩) ?_
  rintro ⟨⟨lo, hi⟩, h1, h2, h3, h4⟩ ρ'
  dsimp only at h1 h2 h3 h4 ⊢
  repeat (first | refine g_endt ?_ | refine g_end ?_ | refine g_then ?_ | refine g_in_normal ?_ | refine g_then_ret ?_ | refine g_in_ret ?_ | refine g_then_exit ?_ | refine g_in_exit rfl ?_ | refine g_in_exit_ne (by decide) ?_ | refine g_seq ?_ | refine g_region ?_ | refine g_block ?_ | refine g_ret ?_ | refine g_return_n ?_ | refine g_exit ?_ | refine g_skip ?_)
  refine o_move ?_
  refine o_move ?_
  refine o_lss rfl rfl ?_
  first | refine g_endt ?_ | refine g_end ?_
  by_cases h : lo < hi
  · first | refine g_seq (g_cond_t rfl (by simpa using h) ?_) | refine g_cond_t rfl (by simpa using h) ?_
    repeat (first | refine g_endt ?_ | refine g_end ?_ | refine g_then ?_ | refine g_in_normal ?_ | refine g_then_ret ?_ | refine g_in_ret ?_ | refine g_then_exit ?_ | refine g_in_exit rfl ?_ | refine g_in_exit_ne (by decide) ?_ | refine g_seq ?_ | refine g_region ?_ | refine g_block ?_ | refine g_ret ?_ | refine g_return_n ?_ | refine g_exit ?_ | refine g_skip ?_)
    refine o_move ?_
    refine o_move ?_
    refine o_move ?_
    refine o_sub (c := ((hi - lo : Nat) : Int)) rfl rfl (by omega) (by omega) (by omega) ?_
    refine o_quo (c := (((hi - lo) / 2 : Nat) : Int)) rfl rfl (by decide) (by rw [Int.tdiv_eq_ediv_of_nonneg (by omega)]; omega) (by omega) (by omega) ?_
    refine o_add (c := ((lo + (hi - lo) / 2 : Nat) : Int)) rfl rfl (by omega) (by omega) (by omega) ?_
    generalize hmid : lo + (hi - lo) / 2 = mid
    have hm1 : lo ≤ mid := by omega
    have hm2 : mid < hi := by omega
    have hm3 : mid < ys.length := by omega
    obtain ⟨y, hy⟩ : ∃ y, ys[mid]? = some y := ⟨_, List.getElem?_eq_getElem hm3⟩
    refine o_assign ?_
    refine g_endt ?_
    repeat (first | refine g_endt ?_ | refine g_end ?_ | refine g_then ?_ | refine g_in_normal ?_ | refine g_then_ret ?_ | refine g_in_ret ?_ | refine g_then_exit ?_ | refine g_in_exit rfl ?_ | refine g_in_exit_ne (by decide) ?_ | refine g_seq ?_ | refine g_region ?_ | refine g_block ?_ | refine g_ret ?_ | refine g_return_n ?_ | refine g_exit ?_ | refine g_skip ?_)
    refine g_draw [] [0,1,2,3,4,5,6,7,8,9,10] [cellsB p #[.slice S ys.length c, .bool b] 129, row 113 PgSE.enc 4 b S c ys, cellsB q x.val.cells 113] mixed rfl ?_
    refine ob_q rfl rfl ⟨_, fun X Q h => o_move (g_end (h _ _ ⟨rfl, rfl⟩)), ?_⟩
    refine ob_q rfl rfl ⟨_, fun X Q h => o_nil rfl (g_end (h _ _ ⟨rfl, rfl⟩)), ?_⟩
    refine ob_q rfl rfl ⟨_, fun X Q h => o_field rfl (g_end (h _ _ ⟨rfl, rfl⟩)), ?_⟩
    refine ob_q rfl rfl ⟨_, fun X Q h => o_load1 (v := .slice S ys.length c) rfl rfl (g_end (h _ _ ⟨rfl, rfl⟩)), ?_⟩
    refine ob_q rfl rfl ⟨_, fun X Q h => o_move (g_end (h _ _ ⟨rfl, rfl⟩)), ?_⟩
    refine ob_q rfl rfl ⟨_, fun X Q h => o_indexR (ys := ys) (i := mid) rfl rfl rfl hm3 rfl rfl (g_end (h _ _ ⟨rfl, rfl⟩)), ?_⟩
    refine ob_q rfl rfl ⟨_, fun X Q h => o_loadE (ys := ys) rfl rfl hy (g_end (h _ _ ⟨rfl, rfl⟩)), ?_⟩
    refine ob_q rfl rfl ⟨_, fun X Q h => o_iface (u := y.val) rfl (fun w => by kernel_rfl) (g_end (h _ _ ⟨rfl, rfl⟩)), ?_⟩
    refine ob_q rfl rfl ⟨_, fun X Q h => o_loadN (v := x.val) rfl rfl rfl (g_end (h _ _ ⟨rfl, rfl⟩)), ?_⟩
    refine ob_q rfl rfl ⟨_, fun X Q h => o_invoke (PgSE.cmp_spec y x) rfl rfl (fun w => by kernel_rfl) <| by rintro _ _ ⟨rfl, rfl⟩; exact (g_end (h _ _ ⟨rfl, rfl⟩)), ?_⟩
    refine ob_q rfl rfl ⟨_, fun X Q h => o_assign (g_end (h _ _ ⟨rfl, rfl⟩)), ?_⟩
    refine ob_nil ?_
    repeat (first | refine g_endt ?_ | refine g_end ?_ | refine g_then ?_ | refine g_in_normal ?_ | refine g_then_ret ?_ | refine g_in_ret ?_ | refine g_then_exit ?_ | refine g_in_exit rfl ?_ | refine g_in_exit_ne (by decide) ?_ | refine g_seq ?_ | refine g_region ?_ | refine g_block ?_ | refine g_ret ?_ | refine g_return_n ?_ | refine g_exit ?_ | refine g_skip ?_)
    refine o_move ?_
    refine o_eql rfl rfl ?_
    first | refine g_endt ?_ | refine g_end ?_
    by_cases hc : PgSE.cmp y x = 0
    · first | refine g_seq (g_cond_t rfl (by simpa using hc) ?_) | refine g_cond_t rfl (by simpa using hc) ?_
      repeat (first | refine g_endt ?_ | refine g_end ?_ | refine g_then ?_ | refine g_in_normal ?_ | refine g_then_ret ?_ | refine g_in_ret ?_ | refine g_then_exit ?_ | refine g_in_exit rfl ?_ | refine g_in_exit_ne (by decide) ?_ | refine g_seq ?_ | refine g_region ?_ | refine g_block ?_ | refine g_ret ?_ | refine g_return_n ?_ | refine g_exit ?_ | refine g_skip ?_)
      refine o_move ?_
      refine o_assign ?_
      refine o_assign ?_
      first | refine g_endt ?_ | refine g_end ?_
      refine shutSE p ys S c b rfl ?_
      repeat (first | refine g_endt ?_ | refine g_end ?_ | refine g_then ?_ | refine g_in_normal ?_ | refine g_then_ret ?_ | refine g_in_ret ?_ | refine g_then_exit ?_ | refine g_in_exit rfl ?_ | refine g_in_exit_ne (by decide) ?_ | refine g_seq ?_ | refine g_region ?_ | refine g_block ?_ | refine g_ret ?_ | refine g_return_n ?_ | refine g_exit ?_ | refine g_skip ?_)
      exact ret2 rfl (resT rfl) (resT rfl) ⟨mid, true, rfl, rfl, by omega, fun _ => ⟨y, hy, hc⟩, fun e => by cases e⟩
    · first | refine g_seq (g_cond_f rfl (by simpa using hc) ?_) | refine g_cond_f rfl (by simpa using hc) ?_
      repeat (first | refine g_endt ?_ | refine g_end ?_ | refine g_then ?_ | refine g_in_normal ?_ | refine g_then_ret ?_ | refine g_in_ret ?_ | refine g_then_exit ?_ | refine g_in_exit rfl ?_ | refine g_in_exit_ne (by decide) ?_ | refine g_seq ?_ | refine g_region ?_ | refine g_block ?_ | refine g_ret ?_ | refine g_return_n ?_ | refine g_exit ?_ | refine g_skip ?_)
      refine o_move ?_
      refine o_lss rfl rfl ?_
      first | refine g_endt ?_ | refine g_end ?_
      by_cases hn : PgSE.cmp y x < 0
      · first | refine g_seq (g_cond_t rfl (by simpa using hn) ?_) | refine g_cond_t rfl (by simpa using hn) ?_
        repeat (first | refine g_endt ?_ | refine g_end ?_ | refine g_then ?_ | refine g_in_normal ?_ | refine g_then_ret ?_ | refine g_in_ret ?_ | refine g_then_exit ?_ | refine g_in_exit rfl ?_ | refine g_in_exit_ne (by decide) ?_ | refine g_seq ?_ | refine g_region ?_ | refine g_block ?_ | refine g_ret ?_ | refine g_return_n ?_ | refine g_exit ?_ | refine g_skip ?_)
        refine o_move ?_
        refine o_add (c := ((mid + 1 : Nat) : Int)) rfl rfl (by omega) (by omega) (by omega) ?_
        refine o_assign ?_
        first | refine g_endt ?_ | refine g_end ?_
        repeat (first | refine g_endt ?_ | refine g_end ?_ | refine g_then ?_ | refine g_in_normal ?_ | refine g_then_ret ?_ | refine g_in_ret ?_ | refine g_then_exit ?_ | refine g_in_exit rfl ?_ | refine g_in_exit_ne (by decide) ?_ | refine g_seq ?_ | refine g_region ?_ | refine g_block ?_ | refine g_ret ?_ | refine g_return_n ?_ | refine g_exit ?_ | refine g_skip ?_)
        refine g_meets ⟨(mid + 1, hi), by show mid + 1 ≤ hi; omega, h2, fun j y' hj hy' => ?_, h4⟩ (by show hi - (mid + 1) < hi - lo; omega) (Sat.mem ⟨rfl, rfl, rfl, rfl, trivial⟩)
        by_cases e : j = mid
        · subst e; rw [hy] at hy'; cases hy'; exact hn
        · exact PgSE.lin.trans _ _ _ (hs j mid y' y (by dsimp only at hj; omega) hy' hy) hn
      · first | refine g_seq (g_cond_f rfl (by simpa using hn) ?_) | refine g_cond_f rfl (by simpa using hn) ?_
        repeat (first | refine g_endt ?_ | refine g_end ?_ | refine g_then ?_ | refine g_in_normal ?_ | refine g_then_ret ?_ | refine g_in_ret ?_ | refine g_then_exit ?_ | refine g_in_exit rfl ?_ | refine g_in_exit_ne (by decide) ?_ | refine g_seq ?_ | refine g_region ?_ | refine g_block ?_ | refine g_ret ?_ | refine g_return_n ?_ | refine g_exit ?_ | refine g_skip ?_)
        refine o_move ?_
        refine o_assign ?_
        first | refine g_endt ?_ | refine g_end ?_
        repeat (first | refine g_endt ?_ | refine g_end ?_ | refine g_then ?_ | refine g_in_normal ?_ | refine g_then_ret ?_ | refine g_in_ret ?_ | refine g_then_exit ?_ | refine g_in_exit rfl ?_ | refine g_in_exit_ne (by decide) ?_ | refine g_seq ?_ | refine g_region ?_ | refine g_block ?_ | refine g_ret ?_ | refine g_return_n ?_ | refine g_exit ?_ | refine g_skip ?_)
        refine g_meets ⟨(lo, mid), hm1, by show mid ≤ ys.length; omega, h3, fun j y' hj hy' => ?_⟩ (by show mid - lo < hi - lo; omega) (Sat.mem ⟨rfl, rfl, rfl, rfl, trivial⟩)
        by_cases e : j = mid
        · subst e; rw [hy] at hy'; cases hy'; omega
        · have h5 := hs mid j y y' (by dsimp only at hj; omega) hy hy'
          have h6 := PgSE.lin.swap x y
          have h7 := PgSE.lin.trans x y y' (by omega) h5
          have h8 := PgSE.lin.swap x y'
          omega
  · first | refine g_seq (g_cond_f rfl (by simpa using h) ?_) | refine g_cond_f rfl (by simpa using h) ?_
    have e : lo = hi := by omega
    subst e
    repeat (first | refine g_endt ?_ | refine g_end ?_ | refine g_then ?_ | refine g_in_normal ?_ | refine g_then_ret ?_ | refine g_in_ret ?_ | refine g_then_exit ?_ | refine g_in_exit rfl ?_ | refine g_in_exit_ne (by decide) ?_ | refine g_seq ?_ | refine g_region ?_ | refine g_block ?_ | refine g_ret ?_ | refine g_return_n ?_ | refine g_exit ?_ | refine g_skip ?_)
    refine o_move ?_
    refine o_assign ?_
    refine o_assign ?_
    first | refine g_endt ?_ | refine g_end ?_
    refine shutSE p ys S c b rfl ?_
    repeat (first | refine g_endt ?_ | refine g_end ?_ | refine g_then ?_ | refine g_in_normal ?_ | refine g_then_ret ?_ | refine g_in_ret ?_ | refine g_then_exit ?_ | refine g_in_exit rfl ?_ | refine g_in_exit_ne (by decide) ?_ | refine g_seq ?_ | refine g_region ?_ | refine g_block ?_ | refine g_ret ?_ | refine g_return_n ?_ | refine g_exit ?_ | refine g_skip ?_)
    exact ret2 rfl (resT rfl) (resT rfl) ⟨lo, false, rfl, rfl, h2, fun e => (by cases e), fun _ => ⟨h3, h4⟩⟩
end Go.Proofs.Ytdpbjoldgiikkaa
/- An ordered set's functions, for one type of members: own, Put. -/
namespace Go.Proofs.Ytdpbjoldgiikkaa
open Go Go.Sl
attribute [local irreducible] Code.wpIn roundPost bodyPostM runL Ret Meets Begin

theorem ownSE_spec (p : Nat) (ys : List PgSE) (hl : ys.length ≤ 1000000000) : Ctr Try.prog 95 [.pointer (some ⟨p, 0, none⟩)] [SetASE p ys]
    (fun _ M => ∃ (S : Option Addr) (c : Nat), M = [cellsB p #[.slice S ys.length c, .bool false] 129, osl 113 PgSE.enc 4 S c ys]) := by
  refine spec_of Try.func95 rfl Try.ntmps95 rfl fun w0 F => ?_
  repeat (first | refine g_endt ?_ | refine g_end ?_ | refine g_then ?_ | refine g_in_normal ?_ | refine g_then_ret ?_ | refine g_in_ret ?_ | refine g_then_exit ?_ | refine g_in_exit rfl ?_ | refine g_in_exit_ne (by decide) ?_ | refine g_seq ?_ | refine g_region ?_ | refine g_block ?_ | refine g_ret ?_ | refine g_return_n ?_ | refine g_exit ?_ | refine g_skip ?_)
  refine openSE p ys fun S c b => ?_
  refine o_move ?_
  refine o_nil rfl ?_
  refine o_field rfl ?_
  refine o_load1 (v := .bool b) rfl rfl ?_
  refine g_endt ?_
  cases b
  · first | refine g_seq (g_cond_f rfl (rfl) ?_) | refine g_cond_f rfl (rfl) ?_
    change G _ _ [cellsB p #[.slice S ys.length c, .bool false] 129, osl 113 PgSE.enc 4 S c ys] _
    repeat (first | refine g_endt ?_ | refine g_end ?_ | refine g_then ?_ | refine g_in_normal ?_ | refine g_then_ret ?_ | refine g_in_ret ?_ | refine g_then_exit ?_ | refine g_in_exit rfl ?_ | refine g_in_exit_ne (by decide) ?_ | refine g_seq ?_ | refine g_region ?_ | refine g_block ?_ | refine g_ret ?_ | refine g_return_n ?_ | refine g_exit ?_ | refine g_skip ?_)
    exact ret0 rfl ⟨S, c, rfl⟩
  · first | refine g_seq (g_cond_t rfl (rfl) ?_) | refine g_cond_t rfl (rfl) ?_
    change G _ _ [cellsB p #[.slice S ys.length c, .bool true] 129, psl PgSE.enc 4 S ys] _
    repeat (first | refine g_endt ?_ | refine g_end ?_ | refine g_then ?_ | refine g_in_normal ?_ | refine g_then_ret ?_ | refine g_in_ret ?_ | refine g_then_exit ?_ | refine g_in_exit rfl ?_ | refine g_in_exit_ne (by decide) ?_ | refine g_seq ?_ | refine g_region ?_ | refine g_block ?_ | refine g_ret ?_ | refine g_return_n ?_ | refine g_exit ?_ | refine g_skip ?_)
    refine g_draw [7, 12, 15] [0,1,2,3,4,5,6,8,9,10,11,7,12,13,14,15] [cellsB p #[.slice S ys.length c, .bool true] 129, psl PgSE.enc 4 S ys] mixed rfl ?_
    refine ob_q rfl rfl ⟨_, fun X Q h => o_move (g_end (h _ _ ⟨rfl, rfl⟩)), ?_⟩
    refine ob_q rfl rfl ⟨_, fun X Q h => o_move (g_end (h _ _ ⟨rfl, rfl⟩)), ?_⟩
    refine ob_q rfl rfl ⟨_, fun X Q h => o_nil rfl (g_end (h _ _ ⟨rfl, rfl⟩)), ?_⟩
    refine ob_q rfl rfl ⟨_, fun X Q h => o_field rfl (g_end (h _ _ ⟨rfl, rfl⟩)), ?_⟩
    refine ob_q rfl rfl ⟨_, fun X Q h => o_load1 (v := .slice S ys.length c) rfl rfl (g_end (h _ _ ⟨rfl, rfl⟩)), ?_⟩
    refine ob_q rfl rfl ⟨_, fun X Q h => o_len rfl rfl (g_end (h _ _ ⟨rfl, rfl⟩)), ?_⟩
    refine ob_q rfl rfl ⟨_, fun X Q h => o_add (c := ((ys.length + 1 : Nat) : Int)) rfl rfl (by omega) (by omega) (by omega) (g_end (h _ _ ⟨rfl, rfl⟩)), ?_⟩
    refine ob_q rfl rfl ⟨_, fun X Q h => o_move (g_end (h _ _ ⟨rfl, rfl⟩)), ?_⟩
    refine ob_q rfl rfl ⟨_, fun X Q h => o_nil rfl (g_end (h _ _ ⟨rfl, rfl⟩)), ?_⟩
    refine ob_q rfl rfl ⟨_, fun X Q h => o_field rfl (g_end (h _ _ ⟨rfl, rfl⟩)), ?_⟩
    refine ob_q rfl rfl ⟨_, fun X Q h => o_load1 (v := .slice S ys.length c) rfl rfl (g_end (h _ _ ⟨rfl, rfl⟩)), ?_⟩
    refine ob_l rfl rfl fun Qz hz => o_make0 (α := PgSE) (enc := PgSE.enc) rfl rfl rfl (by omega) (by simp [maxLen]; omega) fun T => g_end (hz _ _ ⟨_, ob_fin, ?_⟩)
    clear hz Qz
    refine ob_l rfl rfl fun Qz hz => o_append0 (ys := ys) rfl rfl rfl rfl rfl (by simp [maxLen]; omega) (by omega) fun U d => g_end (hz _ _ ⟨_, ob_fin, ?_⟩)
    clear hz Qz
    refine ob_q rfl rfl ⟨_, fun X Q h => o_nil rfl (g_end (h _ _ ⟨rfl, rfl⟩)), ?_⟩
    refine ob_q rfl rfl ⟨_, fun X Q h => o_field rfl (g_end (h _ _ ⟨rfl, rfl⟩)), ?_⟩
    refine ob_s ([]) rfl rfl rfl fun Qz hz => o_store (v := .slice U ys.length d) rfl rfl rfl rfl rfl <| g_end (hz _ _ ⟨_, ob_fin, ?_⟩)
    clear hz Qz
    refine ob_nil ?_
    repeat (first | refine g_endt ?_ | refine g_end ?_ | refine g_then ?_ | refine g_in_normal ?_ | refine g_then_ret ?_ | refine g_in_ret ?_ | refine g_then_exit ?_ | refine g_in_exit rfl ?_ | refine g_in_exit_ne (by decide) ?_ | refine g_seq ?_ | refine g_region ?_ | refine g_block ?_ | refine g_ret ?_ | refine g_return_n ?_ | refine g_exit ?_ | refine g_skip ?_)
    refine o_move ?_
    refine o_nil rfl ?_
    refine o_field rfl ?_
    refine o_store rfl rfl rfl rfl rfl ?_
    first | refine g_endt ?_ | refine g_end ?_
    repeat (first | refine g_endt ?_ | refine g_end ?_ | refine g_then ?_ | refine g_in_normal ?_ | refine g_then_ret ?_ | refine g_in_ret ?_ | refine g_then_exit ?_ | refine g_in_exit rfl ?_ | refine g_in_exit_ne (by decide) ?_ | refine g_seq ?_ | refine g_region ?_ | refine g_block ?_ | refine g_ret ?_ | refine g_return_n ?_ | refine g_exit ?_ | refine g_skip ?_)
    refine G.norm p #[.slice U ys.length d, .bool false] rfl ?_
    exact ret0 rfl ⟨U, d, rfl⟩
end Go.Proofs.Ytdpbjoldgiikkaa
/- An ordered set's functions, for one type of members: Put. -/
namespace Go.Proofs.Ytdpbjoldgiikkaa
open Go Go.Sl
attribute [local irreducible] Code.wpIn roundPost bodyPostM runL Ret Meets Begin

theorem take_snocPSE {α : Type} (ys : List α) (i : Nat) (y : α) (h : ys[i]? = some y) : ys.take (i + 1) = ys.take i ++ [y] := by rw [List.take_add_one, h]; rfl
theorem gapSE (ys : List PgSE) (i : Nat) (w y : PgSE) (hi : i < ys.length) (hy : ys[i]? = some y) : (ys.take (i + 1) ++ w :: ys.drop (i + 1)).set (i + 1) y = ys.take i ++ y :: ys.drop i := by
  have h1 : (ys.take (i + 1)).length = i + 1 := by simp; omega
  have h2 : ys.drop i = y :: ys.drop (i + 1) := by
    rw [List.drop_eq_getElem_cons hi]
    rw [List.getElem?_eq_getElem hi] at hy
    cases hy
    rfl
  rw [List.set_append_right _ _ (by omega), h1, Nat.sub_self, List.set_cons_zero, take_snocPSE ys i y hy, h2]
  simp
theorem PutSE_spec (p : Nat) (ys : List PgSE) (x : PgSE) (hs : Srt PgSE.cmp ys) (hl : ys.length < 1000000000) : Ctr Try.prog 91 [.pointer (some ⟨p, 0, none⟩), x.val] [SetASE p ys]
    (fun v M => ∃ (k : Nat) (there : Bool), v = .bool !there ∧ M = [SetASE p (cond there ys (ys.take k ++ x :: ys.drop k))] ∧ FindR PgSE.cmp ys x k there) := by
  refine spec_of Try.func91 rfl Try.ntmps91 rfl fun w0 F => ?_
  repeat (first | refine g_endt ?_ | refine g_end ?_ | refine g_then ?_ | refine g_in_normal ?_ | refine g_then_ret ?_ | refine g_in_ret ?_ | refine g_then_exit ?_ | refine g_in_exit rfl ?_ | refine g_in_exit_ne (by decide) ?_ | refine g_seq ?_ | refine g_region ?_ | refine g_block ?_ | refine g_ret ?_ | refine g_return_n ?_ | refine g_exit ?_ | refine g_skip ?_)
  refine o_boxc x.val.cells rfl rfl fun q => ?_
  refine o_assign ?_
  first | refine g_endt ?_ | refine g_end ?_
  repeat (first | refine g_endt ?_ | refine g_end ?_ | refine g_then ?_ | refine g_in_normal ?_ | refine g_then_ret ?_ | refine g_in_ret ?_ | refine g_then_exit ?_ | refine g_in_exit rfl ?_ | refine g_in_exit_ne (by decide) ?_ | refine g_seq ?_ | refine g_region ?_ | refine g_block ?_ | refine g_ret ?_ | refine g_return_n ?_ | refine g_exit ?_ | refine g_skip ?_)
  refine o_move ?_
  refine o_peql rfl ?_
  first | refine g_endt ?_ | refine g_end ?_
  first | refine g_seq (g_cond_f rfl (rfl) ?_) | refine g_cond_f rfl (rfl) ?_
  repeat (first | refine g_endt ?_ | refine g_end ?_ | refine g_then ?_ | refine g_in_normal ?_ | refine g_then_ret ?_ | refine g_in_ret ?_ | refine g_then_exit ?_ | refine g_in_exit rfl ?_ | refine g_in_exit_ne (by decide) ?_ | refine g_seq ?_ | refine g_region ?_ | refine g_block ?_ | refine g_ret ?_ | refine g_return_n ?_ | refine g_exit ?_ | refine g_skip ?_)
  refine o_move ?_
  refine o_loadN (v := x.val) rfl rfl rfl ?_
  refine o_call (findSE_spec p ys x hs (by omega)) rfl rfl ?_
  rintro _ _ ⟨k, there, rfl, rfl, hk⟩
  refine o_move ?_
  refine o_extract rfl rfl ?_
  refine o_extract rfl rfl ?_
  refine o_assign ?_
  refine o_assign ?_
  first | refine g_endt ?_ | refine g_end ?_
  repeat (first | refine g_endt ?_ | refine g_end ?_ | refine g_then ?_ | refine g_in_normal ?_ | refine g_then_ret ?_ | refine g_in_ret ?_ | refine g_then_exit ?_ | refine g_in_exit rfl ?_ | refine g_in_exit_ne (by decide) ?_ | refine g_seq ?_ | refine g_region ?_ | refine g_block ?_ | refine g_ret ?_ | refine g_return_n ?_ | refine g_exit ?_ | refine g_skip ?_)
  refine o_move ?_
  refine g_endt ?_
  cases there
  case true =>
    first | refine g_seq (g_cond_t rfl (rfl) ?_) | refine g_cond_t rfl (rfl) ?_
    repeat (first | refine g_endt ?_ | refine g_end ?_ | refine g_then ?_ | refine g_in_normal ?_ | refine g_then_ret ?_ | refine g_in_ret ?_ | refine g_then_exit ?_ | refine g_in_exit rfl ?_ | refine g_in_exit_ne (by decide) ?_ | refine g_seq ?_ | refine g_region ?_ | refine g_block ?_ | refine g_ret ?_ | refine g_return_n ?_ | refine g_exit ?_ | refine g_skip ?_)
    refine o_assign ?_
    first | refine g_endt ?_ | refine g_end ?_
    repeat (first | refine g_endt ?_ | refine g_end ?_ | refine g_then ?_ | refine g_in_normal ?_ | refine g_then_ret ?_ | refine g_in_ret ?_ | refine g_then_exit ?_ | refine g_in_exit rfl ?_ | refine g_in_exit_ne (by decide) ?_ | refine g_seq ?_ | refine g_region ?_ | refine g_block ?_ | refine g_ret ?_ | refine g_return_n ?_ | refine g_exit ?_ | refine g_skip ?_)
    exact ret1 (K := [SetASE p ys]) rfl (resT rfl) ⟨k, true, rfl, rfl, hk⟩
  first | refine g_seq (g_cond_f rfl (rfl) ?_) | refine g_cond_f rfl (rfl) ?_
  repeat (first | refine g_endt ?_ | refine g_end ?_ | refine g_then ?_ | refine g_in_normal ?_ | refine g_then_ret ?_ | refine g_in_ret ?_ | refine g_then_exit ?_ | refine g_in_exit rfl ?_ | refine g_in_exit_ne (by decide) ?_ | refine g_seq ?_ | refine g_region ?_ | refine g_block ?_ | refine g_ret ?_ | refine g_return_n ?_ | refine g_exit ?_ | refine g_skip ?_)
  refine o_move ?_
  refine o_call (ownSE_spec p ys (by omega)) rfl rfl ?_
  rintro _ _ ⟨S, c, rfl⟩
  refine g_endt ?_
  repeat (first | refine g_endt ?_ | refine g_end ?_ | refine g_then ?_ | refine g_in_normal ?_ | refine g_then_ret ?_ | refine g_in_ret ?_ | refine g_then_exit ?_ | refine g_in_exit rfl ?_ | refine g_in_exit_ne (by decide) ?_ | refine g_seq ?_ | refine g_region ?_ | refine g_block ?_ | refine g_ret ?_ | refine g_return_n ?_ | refine g_exit ?_ | refine g_skip ?_)
  refine g_draw [6, 7, 10] [0,1,2,3,4,5,6,7,8,9,10] [cellsB p #[.slice S ys.length c, .bool false] 129, cellsB q x.val.cells 113] mixed rfl ?_
  refine ob_q rfl rfl ⟨_, fun X Q h => o_move (g_end (h _ _ ⟨rfl, rfl⟩)), ?_⟩
  refine ob_q rfl rfl ⟨_, fun X Q h => o_move (g_end (h _ _ ⟨rfl, rfl⟩)), ?_⟩
  refine ob_q rfl rfl ⟨_, fun X Q h => o_nil rfl (g_end (h _ _ ⟨rfl, rfl⟩)), ?_⟩
  refine ob_q rfl rfl ⟨_, fun X Q h => o_field rfl (g_end (h _ _ ⟨rfl, rfl⟩)), ?_⟩
  refine ob_q rfl rfl ⟨_, fun X Q h => o_load1 (v := .slice S ys.length c) rfl rfl (g_end (h _ _ ⟨rfl, rfl⟩)), ?_⟩
  refine ob_q rfl rfl ⟨_, fun X Q h => o_loadN (v := x.val) rfl rfl rfl (g_end (h _ _ ⟨rfl, rfl⟩)), ?_⟩
  refine ob_l rfl rfl fun Qz hz => o_slice_lit (e := 113) x.val.cells (fun w => by kernel_rfl) fun g => G.lit_slice (enc := PgSE.enc) (sz := 4) [x] (by simp [PgSE.enc]) (by simp [maxLen]) <| G.freeze_slice <| g_end (hz _ _ ⟨_, ob_fin, ?_⟩)
  clear hz Qz
  refine ob_l rfl rfl fun Qz hz => o_append (xs := ys) (ys := [x]) rfl rfl rfl rfl rfl (fun _ => .inr trivial) (by simp [maxLen]; omega) (by simp; omega) fun U d => g_end (hz _ _ ⟨_, ob_fin, ?_⟩)
  clear hz Qz
  refine ob_q rfl rfl ⟨_, fun X Q h => o_nil rfl (g_end (h _ _ ⟨rfl, rfl⟩)), ?_⟩
  refine ob_q rfl rfl ⟨_, fun X Q h => o_field rfl (g_end (h _ _ ⟨rfl, rfl⟩)), ?_⟩
  refine ob_s ([]) rfl rfl rfl fun Qz hz => o_store (v := .slice U (ys.length + 1) d) rfl rfl rfl rfl rfl <| g_end (hz _ _ ⟨_, ob_fin, ?_⟩)
  clear hz Qz
  refine ob_nil ?_
  refine G.norm p #[.slice U (ys.length + 1) d, .bool false] rfl ?_
  repeat (first | refine g_endt ?_ | refine g_end ?_ | refine g_then ?_ | refine g_in_normal ?_ | refine g_then_ret ?_ | refine g_in_ret ?_ | refine g_then_exit ?_ | refine g_in_exit rfl ?_ | refine g_in_exit_ne (by decide) ?_ | refine g_seq ?_ | refine g_region ?_ | refine g_block ?_ | refine g_ret ?_ | refine g_return_n ?_ | refine g_exit ?_ | refine g_skip ?_)
  refine o_move ?_
  refine o_nil rfl ?_
  refine o_field rfl ?_
  refine o_load1 (v := .slice U (ys.length + 1) d) rfl rfl ?_
  refine o_len rfl rfl ?_
  refine o_sub (c := ((ys.length : Nat) : Int)) rfl rfl (by omega) (by omega) (by omega) ?_
  refine o_assign ?_
  refine g_endt ?_
  repeat (first | refine g_endt ?_ | refine g_end ?_ | refine g_then ?_ | refine g_in_normal ?_ | refine g_then_ret ?_ | refine g_in_ret ?_ | refine g_then_exit ?_ | refine g_in_exit rfl ?_ | refine g_in_exit_ne (by decide) ?_ | refine g_seq ?_ | refine g_region ?_ | refine g_block ?_ | refine g_ret ?_ | refine g_return_n ?_ | refine g_exit ?_ | refine g_skip ?_)
  have hk1 : k ≤ ys.length := hk.1
  refine g_loop (σ := {s : Nat × PgSE // k ≤ s.1 ∧ s.1 ≤ ys.length})
    (S := fun s => [(0, .pointer (some ⟨p, 0, none⟩)), (3, .pointer (some ⟨q, 0, none⟩)), (5, .int .i64 (k : Int)), (7, .int .i64 (s.1.1 : Int))])
    (H := fun s => [cellsB p #[.slice U (ys.length + 1) d, .bool false] 129, cellsB q x.val.cells 113, osl 113 PgSE.enc 4 U d (ys.take s.1.1 ++ s.1.2 :: ys.drop s.1.1)]) (μ := fun s => s.1.1)
    (s0 := ⟨(ys.length, x), hk1, Nat.le_refl _⟩) (Sat.mem ⟨rfl, rfl, rfl, rfl, trivial⟩) (t := by simp only [List.take_length, List.drop_length]; infer_instance) ?_
  rintro ⟨⟨i, w⟩, h1, h2⟩ ρ'
  dsimp only at h1 h2 ⊢
  have hlen : (ys.take i ++ w :: ys.drop i).length = ys.length + 1 := by simp; omega
  repeat (first | refine g_endt ?_ | refine g_end ?_ | refine g_then ?_ | refine g_in_normal ?_ | refine g_then_ret ?_ | refine g_in_ret ?_ | refine g_then_exit ?_ | refine g_in_exit rfl ?_ | refine g_in_exit_ne (by decide) ?_ | refine g_seq ?_ | refine g_region ?_ | refine g_block ?_ | refine g_ret ?_ | refine g_return_n ?_ | refine g_exit ?_ | refine g_skip ?_)
  refine o_move ?_
  refine o_move ?_
  refine o_gtr rfl rfl ?_
  first | refine g_endt ?_ | refine g_end ?_
  by_cases h : k < i
  · first | refine g_seq (g_cond_t rfl (by simpa using h) ?_) | refine g_cond_t rfl (by simpa using h) ?_
    repeat (first | refine g_endt ?_ | refine g_end ?_ | refine g_then ?_ | refine g_in_normal ?_ | refine g_then_ret ?_ | refine g_in_ret ?_ | refine g_then_exit ?_ | refine g_in_exit rfl ?_ | refine g_in_exit_ne (by decide) ?_ | refine g_seq ?_ | refine g_region ?_ | refine g_block ?_ | refine g_ret ?_ | refine g_return_n ?_ | refine g_exit ?_ | refine g_skip ?_)
    obtain ⟨i, rfl⟩ : ∃ j, i = j + 1 := ⟨i - 1, by omega⟩
    have hi : i < ys.length := by omega
    obtain ⟨y, hy⟩ : ∃ y, ys[i]? = some y := ⟨_, List.getElem?_eq_getElem hi⟩
    have hz : (ys.take (i + 1) ++ w :: ys.drop (i + 1))[i]? = some y := by
      rw [List.getElem?_append_left (by simp; omega), List.getElem?_take, if_pos (by omega), hy]
    refine g_draw [14] [0,1,2,3,4,5,6,7,8,9,10,11,12,13,14] [cellsB p #[.slice U (ys.length + 1) d, .bool false] 129, osl 113 PgSE.enc 4 U d (ys.take (i + 1) ++ w :: ys.drop (i + 1))] mixed rfl ?_
    refine ob_q rfl rfl ⟨_, fun X Q h => o_move (g_end (h _ _ ⟨rfl, rfl⟩)), ?_⟩
    refine ob_q rfl rfl ⟨_, fun X Q h => o_nil rfl (g_end (h _ _ ⟨rfl, rfl⟩)), ?_⟩
    refine ob_q rfl rfl ⟨_, fun X Q h => o_field rfl (g_end (h _ _ ⟨rfl, rfl⟩)), ?_⟩
    refine ob_q rfl rfl ⟨_, fun X Q h => o_load1 (v := .slice U (ys.length + 1) d) rfl rfl (g_end (h _ _ ⟨rfl, rfl⟩)), ?_⟩
    refine ob_q rfl rfl ⟨_, fun X Q h => o_move (g_end (h _ _ ⟨rfl, rfl⟩)), ?_⟩
    refine ob_q rfl rfl ⟨_, fun X Q h => o_move (g_end (h _ _ ⟨rfl, rfl⟩)), ?_⟩
    refine ob_q rfl rfl ⟨_, fun X Q h => o_nil rfl (g_end (h _ _ ⟨rfl, rfl⟩)), ?_⟩
    refine ob_q rfl rfl ⟨_, fun X Q h => o_field rfl (g_end (h _ _ ⟨rfl, rfl⟩)), ?_⟩
    refine ob_q rfl rfl ⟨_, fun X Q h => o_load1 (v := .slice U (ys.length + 1) d) rfl rfl (g_end (h _ _ ⟨rfl, rfl⟩)), ?_⟩
    refine ob_q rfl rfl ⟨_, fun X Q h => o_move (g_end (h _ _ ⟨rfl, rfl⟩)), ?_⟩
    refine ob_q rfl rfl ⟨_, fun X Q h => o_sub (c := ((i : Nat) : Int)) rfl rfl (by omega) (by omega) (by omega) (g_end (h _ _ ⟨rfl, rfl⟩)), ?_⟩
    refine ob_q rfl rfl ⟨_, fun X Q h => o_indexR (i := i) rfl rfl rfl (by omega) hlen rfl (g_end (h _ _ ⟨rfl, rfl⟩)), ?_⟩
    refine ob_q rfl rfl ⟨_, fun X Q h => o_loadE (enc := PgSE.enc) rfl rfl hz (g_end (h _ _ ⟨rfl, rfl⟩)), ?_⟩
    refine ob_q rfl rfl ⟨_, fun X Q h => o_indexR (i := i + 1) rfl rfl rfl (by omega) hlen rfl (g_end (h _ _ ⟨rfl, rfl⟩)), ?_⟩
    refine ob_s ([]) rfl rfl rfl fun Qz hz => o_storeE (e := 113) (c := d) (v := y.val) (z := y) (i := i + 1) (enc := PgSE.enc) (xs := ys.take (i + 1) ++ w :: ys.drop (i + 1)) rfl rfl rfl rfl (by omega) <| g_end (hz _ _ ⟨_, ob_fin, ?_⟩)
    clear hz Qz
    refine ob_nil ?_
    rw [gapSE ys i w y hi hy]
    repeat (first | refine g_endt ?_ | refine g_end ?_ | refine g_then ?_ | refine g_in_normal ?_ | refine g_then_ret ?_ | refine g_in_ret ?_ | refine g_then_exit ?_ | refine g_in_exit rfl ?_ | refine g_in_exit_ne (by decide) ?_ | refine g_seq ?_ | refine g_region ?_ | refine g_block ?_ | refine g_ret ?_ | refine g_return_n ?_ | refine g_exit ?_ | refine g_skip ?_)
    refine o_move ?_
    refine o_sub (c := ((i : Nat) : Int)) rfl rfl (by omega) (by omega) (by omega) ?_
    refine o_assign ?_
    refine g_endt ?_
    repeat (first | refine g_endt ?_ | refine g_end ?_ | refine g_then ?_ | refine g_in_normal ?_ | refine g_then_ret ?_ | refine g_in_ret ?_ | refine g_then_exit ?_ | refine g_in_exit rfl ?_ | refine g_in_exit_ne (by decide) ?_ | refine g_seq ?_ | refine g_region ?_ | refine g_block ?_ | refine g_ret ?_ | refine g_return_n ?_ | refine g_exit ?_ | refine g_skip ?_)
    exact g_meets ⟨(i, y), by show k ≤ i; omega, by show i ≤ ys.length; omega⟩ (by show i < i + 1; omega) (Sat.mem ⟨rfl, rfl, rfl, rfl, trivial⟩)
  · first | refine g_seq (g_cond_f rfl (by simpa using h) ?_) | refine g_cond_f rfl (by simpa using h) ?_
    have e : i = k := by omega
    subst e
    repeat (first | refine g_endt ?_ | refine g_end ?_ | refine g_then ?_ | refine g_in_normal ?_ | refine g_then_ret ?_ | refine g_in_ret ?_ | refine g_then_exit ?_ | refine g_in_exit rfl ?_ | refine g_in_exit_ne (by decide) ?_ | refine g_seq ?_ | refine g_region ?_ | refine g_block ?_ | refine g_ret ?_ | refine g_return_n ?_ | refine g_exit ?_ | refine g_skip ?_)
    refine g_draw [7] [0,1,2,3,4,5,6,7] [cellsB p #[.slice U (ys.length + 1) d, .bool false] 129, osl 113 PgSE.enc 4 U d (ys.take i ++ w :: ys.drop i), cellsB q x.val.cells 113] mixed rfl ?_
    refine ob_q rfl rfl ⟨_, fun X Q h => o_move (g_end (h _ _ ⟨rfl, rfl⟩)), ?_⟩
    refine ob_q rfl rfl ⟨_, fun X Q h => o_nil rfl (g_end (h _ _ ⟨rfl, rfl⟩)), ?_⟩
    refine ob_q rfl rfl ⟨_, fun X Q h => o_field rfl (g_end (h _ _ ⟨rfl, rfl⟩)), ?_⟩
    refine ob_q rfl rfl ⟨_, fun X Q h => o_load1 (v := .slice U (ys.length + 1) d) rfl rfl (g_end (h _ _ ⟨rfl, rfl⟩)), ?_⟩
    refine ob_q rfl rfl ⟨_, fun X Q h => o_move (g_end (h _ _ ⟨rfl, rfl⟩)), ?_⟩
    refine ob_q rfl rfl ⟨_, fun X Q h => o_loadN (v := x.val) rfl rfl rfl (g_end (h _ _ ⟨rfl, rfl⟩)), ?_⟩
    refine ob_q rfl rfl ⟨_, fun X Q h => o_indexR (i := i) rfl rfl rfl (by omega) hlen rfl (g_end (h _ _ ⟨rfl, rfl⟩)), ?_⟩
    refine ob_s ([]) rfl rfl rfl fun Qz hz => o_storeE (e := 113) (c := d) (v := x.val) (z := x) (i := i) (enc := PgSE.enc) (xs := ys.take i ++ w :: ys.drop i) rfl rfl rfl rfl (by omega) <| g_end (hz _ _ ⟨_, ob_fin, ?_⟩)
    clear hz Qz
    refine ob_nil ?_
    have hset : (ys.take i ++ w :: ys.drop i).set i x = ys.take i ++ x :: ys.drop i := by
      have h3 : (ys.take i).length = i := by simp; omega
      rw [List.set_append_right _ _ (by omega), h3, Nat.sub_self, List.set_cons_zero]
    rw [hset]
    repeat (first | refine g_endt ?_ | refine g_end ?_ | refine g_then ?_ | refine g_in_normal ?_ | refine g_then_ret ?_ | refine g_in_ret ?_ | refine g_then_exit ?_ | refine g_in_exit rfl ?_ | refine g_in_exit_ne (by decide) ?_ | refine g_seq ?_ | refine g_region ?_ | refine g_block ?_ | refine g_ret ?_ | refine g_return_n ?_ | refine g_exit ?_ | refine g_skip ?_)
    refine o_assign ?_
    first | refine g_endt ?_ | refine g_end ?_
    refine shutFSE p (ys.take i ++ x :: ys.drop i) U d (len := ys.length + 1) (by simp; omega) ?_
    repeat (first | refine g_endt ?_ | refine g_end ?_ | refine g_then ?_ | refine g_in_normal ?_ | refine g_then_ret ?_ | refine g_in_ret ?_ | refine g_then_exit ?_ | refine g_in_exit rfl ?_ | refine g_in_exit_ne (by decide) ?_ | refine g_seq ?_ | refine g_region ?_ | refine g_block ?_ | refine g_ret ?_ | refine g_return_n ?_ | refine g_exit ?_ | refine g_skip ?_)
    exact ret1 (K := [SetASE p (ys.take i ++ x :: ys.drop i)]) rfl (resT rfl) ⟨i, false, rfl, rfl, hk⟩
end Go.Proofs.Ytdpbjoldgiikkaa
/- An ordered set's functions, for one type of members: made. -/
namespace Go.Proofs.Ytdpbjoldgiikkaa
open Go Go.Sl
attribute [local irreducible] Code.wpIn roundPost bodyPostM runL Ret Meets Begin

theorem NilSE_set (p : Nat) {w0 : World} {A : SProp} {L M : List SProp} {Φ : World → Prop} [tk : Take1 L (cellsB p #[.slice none 0 0, .bool false] 129) M] (h : G w0 A (SetASE p [] :: M) Φ) : G w0 A L Φ :=
  G.perm tk.perm (G.nil_slice (α := PgSE) 113 PgSE.enc 4 (shutFSE p [] none 0 rfl (M := M) (tk := ⟨List.Perm.swap _ _ _⟩) h))
theorem NewSE_spec : Ctr Try.prog 79 [.slice none 0 0] [] (fun v M => ∃ p, v = .pointer (some ⟨p, 0, none⟩) ∧ M = [SetASE p []]) := by
  refine spec_of Try.func79 rfl Try.ntmps79 rfl fun w0 F => ?_
  repeat (first | refine g_endt ?_ | refine g_end ?_ | refine g_then ?_ | refine g_in_normal ?_ | refine g_then_ret ?_ | refine g_in_ret ?_ | refine g_then_exit ?_ | refine g_in_exit rfl ?_ | refine g_in_exit_ne (by decide) ?_ | refine g_seq ?_ | refine g_region ?_ | refine g_block ?_ | refine g_ret ?_ | refine g_return_n ?_ | refine g_exit ?_ | refine g_skip ?_)
  refine o_assign ?_
  first | refine g_endt ?_ | refine g_end ?_
  repeat (first | refine g_endt ?_ | refine g_end ?_ | refine g_then ?_ | refine g_in_normal ?_ | refine g_then_ret ?_ | refine g_in_ret ?_ | refine g_then_exit ?_ | refine g_in_exit rfl ?_ | refine g_in_exit_ne (by decide) ?_ | refine g_seq ?_ | refine g_region ?_ | refine g_block ?_ | refine g_ret ?_ | refine g_return_n ?_ | refine g_exit ?_ | refine g_skip ?_)
  refine o_build (.agg #[.slice none 0 0, .bool false]) (fun w => by kernel_rfl) ?_
  refine o_boxc #[.slice none 0 0, .bool false] rfl rfl fun p => ?_
  refine NilSE_set p ?_
  refine o_assign ?_
  refine g_endt ?_
  repeat (first | refine g_endt ?_ | refine g_end ?_ | refine g_then ?_ | refine g_in_normal ?_ | refine g_then_ret ?_ | refine g_in_ret ?_ | refine g_then_exit ?_ | refine g_in_exit rfl ?_ | refine g_in_exit_ne (by decide) ?_ | refine g_seq ?_ | refine g_region ?_ | refine g_block ?_ | refine g_ret ?_ | refine g_return_n ?_ | refine g_exit ?_ | refine g_skip ?_)
  refine o_move ?_
  refine o_len rfl rfl ?_
  refine o_move ?_
  first | refine g_endt ?_ | refine g_end ?_
  repeat (first | refine g_endt ?_ | refine g_end ?_ | refine g_then ?_ | refine g_in_normal ?_ | refine g_then_ret ?_ | refine g_in_ret ?_ | refine g_then_exit ?_ | refine g_in_exit rfl ?_ | refine g_in_exit_ne (by decide) ?_ | refine g_seq ?_ | refine g_region ?_ | refine g_block ?_ | refine g_ret ?_ | refine g_return_n ?_ | refine g_exit ?_ | refine g_skip ?_)
  refine g_loop (σ := Unit) (S := fun _ => [(3, .pointer (some ⟨p, 0, none⟩)), (9, .int .i64 0), (10, .int .i64 0)]) (H := fun _ => [SetASE p []]) (μ := fun _ => 0) (s0 := ()) (Sat.mem ⟨rfl, rfl, rfl, trivial⟩) ?_
  rintro _ ρ'
  repeat (first | refine g_endt ?_ | refine g_end ?_ | refine g_then ?_ | refine g_in_normal ?_ | refine g_then_ret ?_ | refine g_in_ret ?_ | refine g_then_exit ?_ | refine g_in_exit rfl ?_ | refine g_in_exit_ne (by decide) ?_ | refine g_seq ?_ | refine g_region ?_ | refine g_block ?_ | refine g_ret ?_ | refine g_return_n ?_ | refine g_exit ?_ | refine g_skip ?_)
  refine o_lss rfl rfl ?_
  first | refine g_endt ?_ | refine g_end ?_
  first | refine g_seq (g_cond_f rfl (rfl) ?_) | refine g_cond_f rfl (rfl) ?_
  repeat (first | refine g_endt ?_ | refine g_end ?_ | refine g_then ?_ | refine g_in_normal ?_ | refine g_then_ret ?_ | refine g_in_ret ?_ | refine g_then_exit ?_ | refine g_in_exit rfl ?_ | refine g_in_exit_ne (by decide) ?_ | refine g_seq ?_ | refine g_region ?_ | refine g_block ?_ | refine g_ret ?_ | refine g_return_n ?_ | refine g_exit ?_ | refine g_skip ?_)
  refine o_move ?_
  refine o_assign ?_
  first | refine g_endt ?_ | refine g_end ?_
  repeat (first | refine g_endt ?_ | refine g_end ?_ | refine g_then ?_ | refine g_in_normal ?_ | refine g_then_ret ?_ | refine g_in_ret ?_ | refine g_then_exit ?_ | refine g_in_exit rfl ?_ | refine g_in_exit_ne (by decide) ?_ | refine g_seq ?_ | refine g_region ?_ | refine g_block ?_ | refine g_ret ?_ | refine g_return_n ?_ | refine g_exit ?_ | refine g_skip ?_)
  exact ret1 rfl (resT rfl) ⟨p, rfl, rfl⟩
end Go.Proofs.Ytdpbjoldgiikkaa
/- An ordered set's functions, for one type of members: Drop, Get, At, Len. -/
namespace Go.Proofs.Ytdpbjoldgiikkaa
open Go Go.Sl
attribute [local irreducible] Code.wpIn roundPost bodyPostM runL Ret Meets Begin

theorem shiftSE (ys : List PgSE) (k i : Nat) (y : PgSE) (hk : k ≤ i) (hi : i + 1 < ys.length) (hy : ys[i + 1]? = some y) : ((ys.eraseIdx k).take i ++ ys.drop i).set i y = (ys.eraseIdx k).take (i + 1) ++ ys.drop (i + 1) := by
  have hle : (ys.eraseIdx k).length = ys.length - 1 := by rw [List.length_eraseIdx]; split <;> omega
  have h1 : ((ys.eraseIdx k).take i).length = i := by simp [hle]; omega
  have h2 : ys.drop i = ys[i] :: ys.drop (i + 1) := List.drop_eq_getElem_cons (by omega)
  have h3 : (ys.eraseIdx k)[i]? = some y := by rw [List.getElem?_eraseIdx, if_neg (by omega), hy]
  rw [List.set_append_right _ _ (by omega), h1, Nat.sub_self, h2, List.set_cons_zero, take_snocPSE _ i y h3]
  simp
theorem DropSE_spec (p : Nat) (ys : List PgSE) (x : PgSE) (hs : Srt PgSE.cmp ys) (hl : ys.length < 1000000000) : Ctr Try.prog 93 [.pointer (some ⟨p, 0, none⟩), x.val] [SetASE p ys]
    (fun v M => ∃ (k : Nat) (there : Bool), v = .bool there ∧ M = [SetASE p (cond there (ys.eraseIdx k) ys)] ∧ FindR PgSE.cmp ys x k there) := by
  refine spec_of Try.func93 rfl Try.ntmps93 rfl fun w0 F => ?_
  repeat (first | refine g_endt ?_ | refine g_end ?_ | refine g_then ?_ | refine g_in_normal ?_ | refine g_then_ret ?_ | refine g_in_ret ?_ | refine g_then_exit ?_ | refine g_in_exit rfl ?_ | refine g_in_exit_ne (by decide) ?_ | refine g_seq ?_ | refine g_region ?_ | refine g_block ?_ | refine g_ret ?_ | refine g_return_n ?_ | refine g_exit ?_ | refine g_skip ?_)
  refine o_boxc x.val.cells rfl rfl fun q => ?_
  refine o_assign ?_
  first | refine g_endt ?_ | refine g_end ?_
  repeat (first | refine g_endt ?_ | refine g_end ?_ | refine g_then ?_ | refine g_in_normal ?_ | refine g_then_ret ?_ | refine g_in_ret ?_ | refine g_then_exit ?_ | refine g_in_exit rfl ?_ | refine g_in_exit_ne (by decide) ?_ | refine g_seq ?_ | refine g_region ?_ | refine g_block ?_ | refine g_ret ?_ | refine g_return_n ?_ | refine g_exit ?_ | refine g_skip ?_)
  refine o_move ?_
  refine o_peql rfl ?_
  first | refine g_endt ?_ | refine g_end ?_
  first | refine g_seq (g_cond_f rfl (rfl) ?_) | refine g_cond_f rfl (rfl) ?_
  repeat (first | refine g_endt ?_ | refine g_end ?_ | refine g_then ?_ | refine g_in_normal ?_ | refine g_then_ret ?_ | refine g_in_ret ?_ | refine g_then_exit ?_ | refine g_in_exit rfl ?_ | refine g_in_exit_ne (by decide) ?_ | refine g_seq ?_ | refine g_region ?_ | refine g_block ?_ | refine g_ret ?_ | refine g_return_n ?_ | refine g_exit ?_ | refine g_skip ?_)
  refine o_move ?_
  refine o_loadN (v := x.val) rfl rfl rfl ?_
  refine o_call (findSE_spec p ys x hs (by omega)) rfl rfl ?_
  rintro _ _ ⟨k, there, rfl, rfl, hk⟩
  refine o_move ?_
  refine o_extract rfl rfl ?_
  refine o_extract rfl rfl ?_
  refine o_assign ?_
  refine o_assign ?_
  first | refine g_endt ?_ | refine g_end ?_
  repeat (first | refine g_endt ?_ | refine g_end ?_ | refine g_then ?_ | refine g_in_normal ?_ | refine g_then_ret ?_ | refine g_in_ret ?_ | refine g_then_exit ?_ | refine g_in_exit rfl ?_ | refine g_in_exit_ne (by decide) ?_ | refine g_seq ?_ | refine g_region ?_ | refine g_block ?_ | refine g_ret ?_ | refine g_return_n ?_ | refine g_exit ?_ | refine g_skip ?_)
  refine o_move ?_
  refine o_not rfl ?_
  refine g_endt ?_
  cases there
  case false =>
    first | refine g_seq (g_cond_t rfl (rfl) ?_) | refine g_cond_t rfl (rfl) ?_
    repeat (first | refine g_endt ?_ | refine g_end ?_ | refine g_then ?_ | refine g_in_normal ?_ | refine g_then_ret ?_ | refine g_in_ret ?_ | refine g_then_exit ?_ | refine g_in_exit rfl ?_ | refine g_in_exit_ne (by decide) ?_ | refine g_seq ?_ | refine g_region ?_ | refine g_block ?_ | refine g_ret ?_ | refine g_return_n ?_ | refine g_exit ?_ | refine g_skip ?_)
    refine o_assign ?_
    first | refine g_endt ?_ | refine g_end ?_
    repeat (first | refine g_endt ?_ | refine g_end ?_ | refine g_then ?_ | refine g_in_normal ?_ | refine g_then_ret ?_ | refine g_in_ret ?_ | refine g_then_exit ?_ | refine g_in_exit rfl ?_ | refine g_in_exit_ne (by decide) ?_ | refine g_seq ?_ | refine g_region ?_ | refine g_block ?_ | refine g_ret ?_ | refine g_return_n ?_ | refine g_exit ?_ | refine g_skip ?_)
    exact ret1 (K := [SetASE p ys]) rfl (resT rfl) ⟨k, false, rfl, rfl, hk⟩
  first | refine g_seq (g_cond_f rfl (rfl) ?_) | refine g_cond_f rfl (rfl) ?_
  have hk1 : k < ys.length := by
    obtain ⟨y, hy, _⟩ := hk.2.1 rfl
    exact (List.getElem?_eq_some_iff.1 hy).1
  repeat (first | refine g_endt ?_ | refine g_end ?_ | refine g_then ?_ | refine g_in_normal ?_ | refine g_then_ret ?_ | refine g_in_ret ?_ | refine g_then_exit ?_ | refine g_in_exit rfl ?_ | refine g_in_exit_ne (by decide) ?_ | refine g_seq ?_ | refine g_region ?_ | refine g_block ?_ | refine g_ret ?_ | refine g_return_n ?_ | refine g_exit ?_ | refine g_skip ?_)
  refine o_move ?_
  refine o_call (ownSE_spec p ys (by omega)) rfl rfl ?_
  rintro _ _ ⟨S, c, rfl⟩
  refine g_endt ?_
  repeat (first | refine g_endt ?_ | refine g_end ?_ | refine g_then ?_ | refine g_in_normal ?_ | refine g_then_ret ?_ | refine g_in_ret ?_ | refine g_then_exit ?_ | refine g_in_exit rfl ?_ | refine g_in_exit_ne (by decide) ?_ | refine g_seq ?_ | refine g_region ?_ | refine g_block ?_ | refine g_ret ?_ | refine g_return_n ?_ | refine g_exit ?_ | refine g_skip ?_)
  refine o_move ?_
  refine o_assign ?_
  first | refine g_endt ?_ | refine g_end ?_
  repeat (first | refine g_endt ?_ | refine g_end ?_ | refine g_then ?_ | refine g_in_normal ?_ | refine g_then_ret ?_ | refine g_in_ret ?_ | refine g_then_exit ?_ | refine g_in_exit rfl ?_ | refine g_in_exit_ne (by decide) ?_ | refine g_seq ?_ | refine g_region ?_ | refine g_block ?_ | refine g_ret ?_ | refine g_return_n ?_ | refine g_exit ?_ | refine g_skip ?_)
  have h0 : (ys.eraseIdx k).take k ++ ys.drop k = ys := by
    rw [List.eraseIdx_eq_take_drop_succ, List.take_append_of_le_length (by simp; omega), List.take_take, Nat.min_self, List.take_append_drop]
  refine g_loop (σ := {i : Nat // k ≤ i ∧ i + 1 ≤ ys.length})
    (S := fun i => [(0, .pointer (some ⟨p, 0, none⟩)), (7, .int .i64 (i.1 : Int))])
    (H := fun i => [cellsB p #[.slice S ys.length c, .bool false] 129, osl 113 PgSE.enc 4 S c ((ys.eraseIdx k).take i.1 ++ ys.drop i.1)]) (μ := fun i => ys.length - i.1)
    (s0 := ⟨k, Nat.le_refl _, hk1⟩) (Sat.mem ⟨rfl, rfl, trivial⟩) (t := by simp only [h0]; infer_instance) ?_
  rintro ⟨i, h1, h2⟩ ρ'
  dsimp only at h1 h2 ⊢
  have hle : (ys.eraseIdx k).length = ys.length - 1 := by rw [List.length_eraseIdx, if_pos hk1]
  have hlen : ((ys.eraseIdx k).take i ++ ys.drop i).length = ys.length := by simp [hle]; omega
  repeat (first | refine g_endt ?_ | refine g_end ?_ | refine g_then ?_ | refine g_in_normal ?_ | refine g_then_ret ?_ | refine g_in_ret ?_ | refine g_then_exit ?_ | refine g_in_exit rfl ?_ | refine g_in_exit_ne (by decide) ?_ | refine g_seq ?_ | refine g_region ?_ | refine g_block ?_ | refine g_ret ?_ | refine g_return_n ?_ | refine g_exit ?_ | refine g_skip ?_)
  refine o_move ?_
  refine o_add (c := ((i + 1 : Nat) : Int)) rfl rfl (by omega) (by omega) (by omega) ?_
  refine o_move ?_
  refine o_nil rfl ?_
  refine o_field rfl ?_
  refine o_load1 (v := .slice S ys.length c) rfl rfl ?_
  refine o_len rfl rfl ?_
  refine o_lss rfl rfl ?_
  refine g_endt ?_
  by_cases h : i + 1 < ys.length
  · first | refine g_seq (g_cond_t rfl (by simp; omega) ?_) | refine g_cond_t rfl (by simp; omega) ?_
    repeat (first | refine g_endt ?_ | refine g_end ?_ | refine g_then ?_ | refine g_in_normal ?_ | refine g_then_ret ?_ | refine g_in_ret ?_ | refine g_then_exit ?_ | refine g_in_exit rfl ?_ | refine g_in_exit_ne (by decide) ?_ | refine g_seq ?_ | refine g_region ?_ | refine g_block ?_ | refine g_ret ?_ | refine g_return_n ?_ | refine g_exit ?_ | refine g_skip ?_)
    obtain ⟨y, hy⟩ : ∃ y, ys[i + 1]? = some y := ⟨_, List.getElem?_eq_getElem h⟩
    have hz : ((ys.eraseIdx k).take i ++ ys.drop i)[i + 1]? = some y := by
      have h3 : ((ys.eraseIdx k).take i).length = i := by simp [hle]; omega
      rw [List.getElem?_append_right (by omega), h3, List.getElem?_drop, show i + (i + 1 - i) = i + 1 by omega, hy]
    refine g_draw [14] [0,1,2,3,4,5,6,7,8,9,10,11,12,13,14] [cellsB p #[.slice S ys.length c, .bool false] 129, osl 113 PgSE.enc 4 S c ((ys.eraseIdx k).take i ++ ys.drop i)] mixed rfl ?_
    refine ob_q rfl rfl ⟨_, fun X Q h => o_move (g_end (h _ _ ⟨rfl, rfl⟩)), ?_⟩
    refine ob_q rfl rfl ⟨_, fun X Q h => o_nil rfl (g_end (h _ _ ⟨rfl, rfl⟩)), ?_⟩
    refine ob_q rfl rfl ⟨_, fun X Q h => o_field rfl (g_end (h _ _ ⟨rfl, rfl⟩)), ?_⟩
    refine ob_q rfl rfl ⟨_, fun X Q h => o_load1 (v := .slice S ys.length c) rfl rfl (g_end (h _ _ ⟨rfl, rfl⟩)), ?_⟩
    refine ob_q rfl rfl ⟨_, fun X Q h => o_move (g_end (h _ _ ⟨rfl, rfl⟩)), ?_⟩
    refine ob_q rfl rfl ⟨_, fun X Q h => o_move (g_end (h _ _ ⟨rfl, rfl⟩)), ?_⟩
    refine ob_q rfl rfl ⟨_, fun X Q h => o_nil rfl (g_end (h _ _ ⟨rfl, rfl⟩)), ?_⟩
    refine ob_q rfl rfl ⟨_, fun X Q h => o_field rfl (g_end (h _ _ ⟨rfl, rfl⟩)), ?_⟩
    refine ob_q rfl rfl ⟨_, fun X Q h => o_load1 (v := .slice S ys.length c) rfl rfl (g_end (h _ _ ⟨rfl, rfl⟩)), ?_⟩
    refine ob_q rfl rfl ⟨_, fun X Q h => o_move (g_end (h _ _ ⟨rfl, rfl⟩)), ?_⟩
    refine ob_q rfl rfl ⟨_, fun X Q h => o_add (c := ((i + 1 : Nat) : Int)) rfl rfl (by omega) (by omega) (by omega) (g_end (h _ _ ⟨rfl, rfl⟩)), ?_⟩
    refine ob_q rfl rfl ⟨_, fun X Q h => o_indexR (i := i + 1) rfl rfl rfl (by omega) hlen rfl (g_end (h _ _ ⟨rfl, rfl⟩)), ?_⟩
    refine ob_q rfl rfl ⟨_, fun X Q h => o_loadE (enc := PgSE.enc) rfl rfl hz (g_end (h _ _ ⟨rfl, rfl⟩)), ?_⟩
    refine ob_q rfl rfl ⟨_, fun X Q h => o_indexR (i := i) rfl rfl rfl (by omega) hlen rfl (g_end (h _ _ ⟨rfl, rfl⟩)), ?_⟩
    refine ob_s ([]) rfl rfl rfl fun Qz hz => o_storeE (e := 113) (c := c) (v := y.val) (z := y) (i := i) (enc := PgSE.enc) (xs := (ys.eraseIdx k).take i ++ ys.drop i) rfl rfl rfl rfl (by omega) <| g_end (hz _ _ ⟨_, ob_fin, ?_⟩)
    clear hz Qz
    refine ob_nil ?_
    rw [shiftSE ys k i y h1 h hy]
    repeat (first | refine g_endt ?_ | refine g_end ?_ | refine g_then ?_ | refine g_in_normal ?_ | refine g_then_ret ?_ | refine g_in_ret ?_ | refine g_then_exit ?_ | refine g_in_exit rfl ?_ | refine g_in_exit_ne (by decide) ?_ | refine g_seq ?_ | refine g_region ?_ | refine g_block ?_ | refine g_ret ?_ | refine g_return_n ?_ | refine g_exit ?_ | refine g_skip ?_)
    refine o_move ?_
    refine o_add (c := ((i + 1 : Nat) : Int)) rfl rfl (by omega) (by omega) (by omega) ?_
    refine o_assign ?_
    refine g_endt ?_
    repeat (first | refine g_endt ?_ | refine g_end ?_ | refine g_then ?_ | refine g_in_normal ?_ | refine g_then_ret ?_ | refine g_in_ret ?_ | refine g_then_exit ?_ | refine g_in_exit rfl ?_ | refine g_in_exit_ne (by decide) ?_ | refine g_seq ?_ | refine g_region ?_ | refine g_block ?_ | refine g_ret ?_ | refine g_return_n ?_ | refine g_exit ?_ | refine g_skip ?_)
    exact g_meets ⟨i + 1, by omega, by omega⟩ (by show ys.length - (i + 1) < ys.length - i; omega) (Sat.mem ⟨rfl, rfl, trivial⟩)
  · first | refine g_seq (g_cond_f rfl (by simp; omega) ?_) | refine g_cond_f rfl (by simp; omega) ?_
    repeat (first | refine g_endt ?_ | refine g_end ?_ | refine g_then ?_ | refine g_in_normal ?_ | refine g_then_ret ?_ | refine g_in_ret ?_ | refine g_then_exit ?_ | refine g_in_exit rfl ?_ | refine g_in_exit_ne (by decide) ?_ | refine g_seq ?_ | refine g_region ?_ | refine g_block ?_ | refine g_ret ?_ | refine g_return_n ?_ | refine g_exit ?_ | refine g_skip ?_)
    refine g_draw [14] [0,1,2,3,4,5,6,7,8,9,10,11,12,13,14] [cellsB p #[.slice S ys.length c, .bool false] 129, osl 113 PgSE.enc 4 S c ((ys.eraseIdx k).take i ++ ys.drop i)] mixed rfl ?_
    refine ob_q rfl rfl ⟨_, fun X Q h => o_move (g_end (h _ _ ⟨rfl, rfl⟩)), ?_⟩
    refine ob_q rfl rfl ⟨_, fun X Q h => o_move (g_end (h _ _ ⟨rfl, rfl⟩)), ?_⟩
    refine ob_q rfl rfl ⟨_, fun X Q h => o_nil rfl (g_end (h _ _ ⟨rfl, rfl⟩)), ?_⟩
    refine ob_q rfl rfl ⟨_, fun X Q h => o_field rfl (g_end (h _ _ ⟨rfl, rfl⟩)), ?_⟩
    refine ob_q rfl rfl ⟨_, fun X Q h => o_load1 (v := .slice S ys.length c) rfl rfl (g_end (h _ _ ⟨rfl, rfl⟩)), ?_⟩
    refine ob_q rfl rfl ⟨_, fun X Q h => o_move (g_end (h _ _ ⟨rfl, rfl⟩)), ?_⟩
    refine ob_q rfl rfl ⟨_, fun X Q h => o_nil rfl (g_end (h _ _ ⟨rfl, rfl⟩)), ?_⟩
    refine ob_q rfl rfl ⟨_, fun X Q h => o_field rfl (g_end (h _ _ ⟨rfl, rfl⟩)), ?_⟩
    refine ob_q rfl rfl ⟨_, fun X Q h => o_load1 (v := .slice S ys.length c) rfl rfl (g_end (h _ _ ⟨rfl, rfl⟩)), ?_⟩
    refine ob_q rfl rfl ⟨_, fun X Q h => o_len rfl rfl (g_end (h _ _ ⟨rfl, rfl⟩)), ?_⟩
    refine ob_q rfl rfl ⟨_, fun X Q h => o_sub (c := ((ys.length - 1 : Nat) : Int)) rfl rfl (by omega) (by omega) (by omega) (g_end (h _ _ ⟨rfl, rfl⟩)), ?_⟩
    refine ob_q rfl rfl ⟨_, fun X Q h => o_uptoR (e := 113) (enc := PgSE.enc) (sz := 4) (c := c) (k := ys.length - 1) (xs := (ys.eraseIdx k).take i ++ ys.drop i) rfl rfl rfl hlen (by omega) (g_end (h _ _ ⟨rfl, rfl⟩)), ?_⟩
    refine ob_q rfl rfl ⟨_, fun X Q h => o_nil rfl (g_end (h _ _ ⟨rfl, rfl⟩)), ?_⟩
    refine ob_q rfl rfl ⟨_, fun X Q h => o_field rfl (g_end (h _ _ ⟨rfl, rfl⟩)), ?_⟩
    refine ob_s ([]) rfl rfl rfl fun Qz hz => o_store (v := .slice S (ys.length - 1) c) rfl rfl rfl rfl rfl <| g_end (hz _ _ ⟨_, ob_fin, ?_⟩)
    clear hz Qz
    refine ob_nil ?_
    refine G.norm p #[.slice S (ys.length - 1) c, .bool false] rfl ?_
    refine G.shorten (e := 113) (enc := PgSE.enc) (sz := 4) (S := S) (c := c) (xs := (ys.eraseIdx k).take i ++ ys.drop i) (ys.length - 1) (by omega) ?_
    have he : ((ys.eraseIdx k).take i ++ ys.drop i).take (ys.length - 1) = ys.eraseIdx k := by
      have h3 : ((ys.eraseIdx k).take i).length = ys.length - 1 := by simp [hle]; omega
      rw [List.take_append_of_le_length (by omega), List.take_of_length_le (by omega), List.take_of_length_le (by omega)]
    rw [he]
    repeat (first | refine g_endt ?_ | refine g_end ?_ | refine g_then ?_ | refine g_in_normal ?_ | refine g_then_ret ?_ | refine g_in_ret ?_ | refine g_then_exit ?_ | refine g_in_exit rfl ?_ | refine g_in_exit_ne (by decide) ?_ | refine g_seq ?_ | refine g_region ?_ | refine g_block ?_ | refine g_ret ?_ | refine g_return_n ?_ | refine g_exit ?_ | refine g_skip ?_)
    refine o_assign ?_
    first | refine g_endt ?_ | refine g_end ?_
    refine shutFSE p (ys.eraseIdx k) S c (len := ys.length - 1) hle ?_
    repeat (first | refine g_endt ?_ | refine g_end ?_ | refine g_then ?_ | refine g_in_normal ?_ | refine g_then_ret ?_ | refine g_in_ret ?_ | refine g_then_exit ?_ | refine g_in_exit rfl ?_ | refine g_in_exit_ne (by decide) ?_ | refine g_seq ?_ | refine g_region ?_ | refine g_block ?_ | refine g_ret ?_ | refine g_return_n ?_ | refine g_exit ?_ | refine g_skip ?_)
    exact ret1 (K := [SetASE p (ys.eraseIdx k)]) rfl (resT rfl) ⟨k, true, rfl, rfl, hk⟩
end Go.Proofs.Ytdpbjoldgiikkaa
/- An ordered set's functions, for one type of members: asked. -/
namespace Go.Proofs.Ytdpbjoldgiikkaa
open Go Go.Sl
attribute [local irreducible] Code.wpIn roundPost bodyPostM runL Ret Meets Begin

/-- What Get tells. -/
def GetRSE (ys : List PgSE) (x : PgSE) (o : Option PgSE) : Prop := match o with
  | some y => ∃ k, FindR PgSE.cmp ys x k true ∧ ys[k]? = some y
  | none => ∃ k, FindR PgSE.cmp ys x k false
theorem GetSE_spec (p : Nat) (ys : List PgSE) (x : PgSE) (hs : Srt PgSE.cmp ys) (hl : ys.length < 1000000000) : Ctr Try.prog 89 [.pointer (some ⟨p, 0, none⟩), x.val] [SetASE p ys]
    (fun v M => ∃ (o : Option PgSE), v = .tuple #[(o.getD PgSE.zero).val, .bool o.isSome] ∧ M = [SetASE p ys] ∧ GetRSE ys x o) := by
  refine spec_of Try.func89 rfl Try.ntmps89 rfl fun w0 F => ?_
  repeat (first | refine g_endt ?_ | refine g_end ?_ | refine g_then ?_ | refine g_in_normal ?_ | refine g_then_ret ?_ | refine g_in_ret ?_ | refine g_then_exit ?_ | refine g_in_exit rfl ?_ | refine g_in_exit_ne (by decide) ?_ | refine g_seq ?_ | refine g_region ?_ | refine g_block ?_ | refine g_ret ?_ | refine g_return_n ?_ | refine g_exit ?_ | refine g_skip ?_)
  refine o_boxc x.val.cells rfl rfl fun q => ?_
  refine o_alloc fun r => ?_
  refine o_assign ?_
  first | refine g_endt ?_ | refine g_end ?_
  repeat (first | refine g_endt ?_ | refine g_end ?_ | refine g_then ?_ | refine g_in_normal ?_ | refine g_then_ret ?_ | refine g_in_ret ?_ | refine g_then_exit ?_ | refine g_in_exit rfl ?_ | refine g_in_exit_ne (by decide) ?_ | refine g_seq ?_ | refine g_region ?_ | refine g_block ?_ | refine g_ret ?_ | refine g_return_n ?_ | refine g_exit ?_ | refine g_skip ?_)
  refine o_alloc fun z => ?_
  refine g_endt ?_
  repeat (first | refine g_endt ?_ | refine g_end ?_ | refine g_then ?_ | refine g_in_normal ?_ | refine g_then_ret ?_ | refine g_in_ret ?_ | refine g_then_exit ?_ | refine g_in_exit rfl ?_ | refine g_in_exit_ne (by decide) ?_ | refine g_seq ?_ | refine g_region ?_ | refine g_block ?_ | refine g_ret ?_ | refine g_return_n ?_ | refine g_exit ?_ | refine g_skip ?_)
  refine o_move ?_
  refine o_peql rfl ?_
  first | refine g_endt ?_ | refine g_end ?_
  first | refine g_seq (g_cond_f rfl (rfl) ?_) | refine g_cond_f rfl (rfl) ?_
  repeat (first | refine g_endt ?_ | refine g_end ?_ | refine g_then ?_ | refine g_in_normal ?_ | refine g_then_ret ?_ | refine g_in_ret ?_ | refine g_then_exit ?_ | refine g_in_exit rfl ?_ | refine g_in_exit_ne (by decide) ?_ | refine g_seq ?_ | refine g_region ?_ | refine g_block ?_ | refine g_ret ?_ | refine g_return_n ?_ | refine g_exit ?_ | refine g_skip ?_)
  refine o_move ?_
  refine o_loadN (v := x.val) rfl rfl rfl ?_
  refine o_call (findSE_spec p ys x hs (by omega)) rfl rfl ?_
  rintro _ _ ⟨k, there, rfl, rfl, hk⟩
  refine o_move ?_
  refine o_extract rfl rfl ?_
  refine o_extract rfl rfl ?_
  refine o_assign ?_
  refine o_assign ?_
  first | refine g_endt ?_ | refine g_end ?_
  repeat (first | refine g_endt ?_ | refine g_end ?_ | refine g_then ?_ | refine g_in_normal ?_ | refine g_then_ret ?_ | refine g_in_ret ?_ | refine g_then_exit ?_ | refine g_in_exit rfl ?_ | refine g_in_exit_ne (by decide) ?_ | refine g_seq ?_ | refine g_region ?_ | refine g_block ?_ | refine g_ret ?_ | refine g_return_n ?_ | refine g_exit ?_ | refine g_skip ?_)
  refine o_move ?_
  refine o_not rfl ?_
  refine g_endt ?_
  cases there
  case false =>
    first | refine g_seq (g_cond_t rfl (rfl) ?_) | refine g_cond_t rfl (rfl) ?_
    repeat (first | refine g_endt ?_ | refine g_end ?_ | refine g_then ?_ | refine g_in_normal ?_ | refine g_then_ret ?_ | refine g_in_ret ?_ | refine g_then_exit ?_ | refine g_in_exit rfl ?_ | refine g_in_exit_ne (by decide) ?_ | refine g_seq ?_ | refine g_region ?_ | refine g_block ?_ | refine g_ret ?_ | refine g_return_n ?_ | refine g_exit ?_ | refine g_skip ?_)
    refine o_loadN (v := PgSE.zero.val) rfl rfl rfl ?_
    refine o_store (v := PgSE.zero.val) rfl rfl rfl rfl rfl ?_
    refine o_assign ?_
    first | refine g_endt ?_ | refine g_end ?_
    refine G.norm r PgSE.zero.val.cells rfl ?_
    repeat (first | refine g_endt ?_ | refine g_end ?_ | refine g_then ?_ | refine g_in_normal ?_ | refine g_then_ret ?_ | refine g_in_ret ?_ | refine g_then_exit ?_ | refine g_in_exit rfl ?_ | refine g_in_exit_ne (by decide) ?_ | refine g_seq ?_ | refine g_region ?_ | refine g_block ?_ | refine g_ret ?_ | refine g_return_n ?_ | refine g_exit ?_ | refine g_skip ?_)
    exact ret2 (K := [SetASE p ys]) rfl (resCN (v := PgSE.zero.val) rfl rfl rfl) (resT rfl) ⟨none, rfl, rfl, k, hk⟩
  first | refine g_seq (g_cond_f rfl (rfl) ?_) | refine g_cond_f rfl (rfl) ?_
  obtain ⟨y, hy, hc⟩ := hk.2.1 rfl
  have hk1 : k < ys.length := (List.getElem?_eq_some_iff.1 hy).1
  repeat (first | refine g_endt ?_ | refine g_end ?_ | refine g_then ?_ | refine g_in_normal ?_ | refine g_then_ret ?_ | refine g_in_ret ?_ | refine g_then_exit ?_ | refine g_in_exit rfl ?_ | refine g_in_exit_ne (by decide) ?_ | refine g_seq ?_ | refine g_region ?_ | refine g_block ?_ | refine g_ret ?_ | refine g_return_n ?_ | refine g_exit ?_ | refine g_skip ?_)
  refine openSE p ys fun S c b => ?_
  refine o_move ?_
  refine o_nil rfl ?_
  refine o_field rfl ?_
  refine o_load1 (v := .slice S ys.length c) rfl rfl ?_
  refine o_move ?_
  refine o_indexR (ys := ys) (i := k) rfl rfl rfl hk1 rfl rfl ?_
  refine o_loadE (ys := ys) rfl rfl hy ?_
  refine o_store (v := y.val) rfl rfl rfl rfl rfl ?_
  refine o_assign ?_
  first | refine g_endt ?_ | refine g_end ?_
  refine G.norm r y.val.cells rfl ?_
  refine shutSE p ys S c b rfl ?_
  repeat (first | refine g_endt ?_ | refine g_end ?_ | refine g_then ?_ | refine g_in_normal ?_ | refine g_then_ret ?_ | refine g_in_ret ?_ | refine g_then_exit ?_ | refine g_in_exit rfl ?_ | refine g_in_exit_ne (by decide) ?_ | refine g_seq ?_ | refine g_region ?_ | refine g_block ?_ | refine g_ret ?_ | refine g_return_n ?_ | refine g_exit ?_ | refine g_skip ?_)
  exact ret2 (K := [SetASE p ys]) rfl (resCN (v := y.val) rfl rfl rfl) (resT rfl) ⟨some y, rfl, rfl, k, hk, hy⟩
end Go.Proofs.Ytdpbjoldgiikkaa
/- An ordered map's functions, for one type of keys and one of values: made, put. -/
namespace Go.Proofs.Ytdpbjoldgiikkaa
open Go Go.Sl
attribute [local irreducible] Code.wpIn roundPost bodyPostM runL Ret Meets Begin

theorem GetMSE_spec (p : Nat) (ys : List PgSE) (x : PgSE) (hs : Srt PgSE.cmp ys) (hl : ys.length < 1000000000) : Ctr Try.prog 89 [.pointer (some ⟨p, 0, none⟩), x.val] [SetASE p ys]
    (fun v M => v = .tuple #[((getM PgSE.cmp ys x).getD PgSE.zero).val, .bool (getM PgSE.cmp ys x).isSome] ∧ M = [SetASE p ys]) := (GetSE_spec p ys x hs hl).mono fun v M ⟨o, h1, h2, h3⟩ => by
  have : getM PgSE.cmp ys x = o := by
    cases o with
    | none => obtain ⟨k, hk⟩ := h3; exact getM_none hk
    | some y => obtain ⟨k, hk, hy⟩ := h3; exact getM_some PgSE.lin hs hk hy
  rw [this]
  exact ⟨h1, h2⟩
def MapASE (m : Nat) (ys : List PgSE) : SProp := ex fun p : Nat => sl [cellsB m #[.pointer (some ⟨p, 0, none⟩)] 115, SetASE p ys]
section
variable {w0 : World} {A : SProp} {L M : List SProp} {Φ : World → Prop}
theorem openMSE (m : Nat) (ys : List PgSE) [tk : Take1 L (MapASE m ys) M] (h : ∀ p, G w0 A (SetASE p ys :: cellsB m #[.pointer (some ⟨p, 0, none⟩)] 115 :: M) Φ) : G w0 A L Φ :=
  G.perm tk.perm (G.ex fun p => G.open_sl (G.perm (List.Perm.swap _ _ _) (h p)))
theorem shutMSE (m p : Nat) (ys : List PgSE) [tk : Take L [cellsB m #[.pointer (some ⟨p, 0, none⟩)] 115, SetASE p ys] M] (h : G w0 A (MapASE m ys :: M) Φ) : G w0 A L Φ :=
  G.perm tk.perm (G.ent ((sl_append_to _ M).trans (Ent.star (show Ent _ (MapASE m ys) from fun _ _ x => ⟨p, x⟩) (Ent.refl _))) h)
end
theorem MapASE_of (m p : Nat) (ys : List PgSE) {L M : List SProp} [tk : Take1 L (MapASE m ys) M] : Ent (sl (SetASE p ys :: cellsB m #[.pointer (some ⟨p, 0, none⟩)] 115 :: M)) (sl L) := by
  refine Ent.trans ?_ (sl_perm tk.perm.symm)
  refine (sl_perm (List.Perm.swap (cellsB m #[.pointer (some ⟨p, 0, none⟩)] 115) (SetASE p ys) M)).trans ?_
  exact (sl_append_to [cellsB m #[.pointer (some ⟨p, 0, none⟩)] 115, SetASE p ys] M).trans (Ent.star (show Ent _ (MapASE m ys) from fun _ _ x => ⟨p, x⟩) (Ent.refl _))
theorem atSE_spec (k : SymD) : Ctr Try.prog 90 [k.val] [] (fun v M => v = (PgSE.mk k PgSE.zero.v).val ∧ M = []) := by
  refine spec_of Try.func90 rfl Try.ntmps90 rfl fun w0 F => ?_
  repeat (first | refine g_endt ?_ | refine g_end ?_ | refine g_then ?_ | refine g_in_normal ?_ | refine g_then_ret ?_ | refine g_in_ret ?_ | refine g_then_exit ?_ | refine g_in_exit rfl ?_ | refine g_in_exit_ne (by decide) ?_ | refine g_seq ?_ | refine g_region ?_ | refine g_block ?_ | refine g_ret ?_ | refine g_return_n ?_ | refine g_exit ?_ | refine g_skip ?_)
  refine o_boxc k.val.cells rfl rfl fun b => ?_
  refine o_alloc fun r => ?_
  refine g_endt ?_
  repeat (first | refine g_endt ?_ | refine g_end ?_ | refine g_then ?_ | refine g_in_normal ?_ | refine g_then_ret ?_ | refine g_in_ret ?_ | refine g_then_exit ?_ | refine g_in_exit rfl ?_ | refine g_in_exit_ne (by decide) ?_ | refine g_seq ?_ | refine g_region ?_ | refine g_block ?_ | refine g_ret ?_ | refine g_return_n ?_ | refine g_exit ?_ | refine g_skip ?_)
  refine o_loadN (v := k.val) rfl rfl rfl ?_
  refine o_build (PgSE.mk k PgSE.zero.v).val (fun w => by kernel_rfl) ?_
  refine o_store (v := (PgSE.mk k PgSE.zero.v).val) rfl rfl rfl rfl rfl ?_
  refine g_endt ?_
  repeat (first | refine g_endt ?_ | refine g_end ?_ | refine g_then ?_ | refine g_in_normal ?_ | refine g_then_ret ?_ | refine g_in_ret ?_ | refine g_then_exit ?_ | refine g_in_exit rfl ?_ | refine g_in_exit_ne (by decide) ?_ | refine g_seq ?_ | refine g_region ?_ | refine g_block ?_ | refine g_ret ?_ | refine g_return_n ?_ | refine g_exit ?_ | refine g_skip ?_)
  exact ret1 rfl (resCN (v := (PgSE.mk k PgSE.zero.v).val) rfl rfl rfl) ⟨rfl, rfl⟩
theorem NewMSE_spec : Ctr Try.prog 59 [] [] (fun v M => ∃ m, v = .pointer (some ⟨m, 0, none⟩) ∧ M = [MapASE m []]) := by
  refine spec_of Try.func59 rfl Try.ntmps59 rfl fun w0 F => ?_
  repeat (first | refine g_endt ?_ | refine g_end ?_ | refine g_then ?_ | refine g_in_normal ?_ | refine g_then_ret ?_ | refine g_in_ret ?_ | refine g_then_exit ?_ | refine g_in_exit rfl ?_ | refine g_in_exit_ne (by decide) ?_ | refine g_seq ?_ | refine g_region ?_ | refine g_block ?_ | refine g_ret ?_ | refine g_return_n ?_ | refine g_exit ?_ | refine g_skip ?_)
  refine o_assign ?_
  first | refine g_endt ?_ | refine g_end ?_
  repeat (first | refine g_endt ?_ | refine g_end ?_ | refine g_then ?_ | refine g_in_normal ?_ | refine g_then_ret ?_ | refine g_in_ret ?_ | refine g_then_exit ?_ | refine g_in_exit rfl ?_ | refine g_in_exit_ne (by decide) ?_ | refine g_seq ?_ | refine g_region ?_ | refine g_block ?_ | refine g_ret ?_ | refine g_return_n ?_ | refine g_exit ?_ | refine g_skip ?_)
  refine o_call NewSE_spec rfl rfl ?_
  rintro _ _ ⟨p, rfl, rfl⟩
  refine o_build (.agg #[.pointer (some ⟨p, 0, none⟩)]) (fun w => by kernel_rfl) ?_
  refine o_boxc #[.pointer (some ⟨p, 0, none⟩)] rfl rfl fun m => ?_
  refine o_assign ?_
  refine g_endt ?_
  refine shutMSE m p [] ?_
  repeat (first | refine g_endt ?_ | refine g_end ?_ | refine g_then ?_ | refine g_in_normal ?_ | refine g_then_ret ?_ | refine g_in_ret ?_ | refine g_then_exit ?_ | refine g_in_exit rfl ?_ | refine g_in_exit_ne (by decide) ?_ | refine g_seq ?_ | refine g_region ?_ | refine g_block ?_ | refine g_ret ?_ | refine g_return_n ?_ | refine g_exit ?_ | refine g_skip ?_)
  exact ret1 rfl (resT rfl) ⟨m, rfl, rfl⟩
/-- What a map is behind a Put of k with v that has found place i. -/
def putLSE (ys : List PgSE) (k : SymD) (v : Option Nat) (i : Nat) (there : Bool) : List PgSE := cond there (ys.set i ⟨(ys[i]?.map (·.k)).getD k, v⟩) (ys.take i ++ ⟨k, v⟩ :: ys.drop i)
theorem PutMSE_spec (m : Nat) (ys : List PgSE) (k : SymD) (v : Option Nat) (hs : Srt PgSE.cmp ys) (hl : ys.length < 999999999) : Ctr Try.prog 85 [.pointer (some ⟨m, 0, none⟩), k.val, PgSE.vval v] [MapASE m ys]
    (fun u M => ∃ (i : Nat) (there : Bool), u = .bool !there ∧ M = [MapASE m (putLSE ys k v i there)] ∧ FindR PgSE.cmp ys ⟨k, v⟩ i there) := by
  refine spec_of Try.func85 rfl Try.ntmps85 rfl fun w0 F => ?_
  repeat (first | refine g_endt ?_ | refine g_end ?_ | refine g_then ?_ | refine g_in_normal ?_ | refine g_then_ret ?_ | refine g_in_ret ?_ | refine g_then_exit ?_ | refine g_in_exit rfl ?_ | refine g_in_exit_ne (by decide) ?_ | refine g_seq ?_ | refine g_region ?_ | refine g_block ?_ | refine g_ret ?_ | refine g_return_n ?_ | refine g_exit ?_ | refine g_skip ?_)
  refine openMSE m ys fun p => ?_
  refine o_boxc k.val.cells rfl rfl fun b => ?_
  refine o_assign ?_
  first | refine g_endt ?_ | refine g_end ?_
  repeat (first | refine g_endt ?_ | refine g_end ?_ | refine g_then ?_ | refine g_in_normal ?_ | refine g_then_ret ?_ | refine g_in_ret ?_ | refine g_then_exit ?_ | refine g_in_exit rfl ?_ | refine g_in_exit_ne (by decide) ?_ | refine g_seq ?_ | refine g_region ?_ | refine g_block ?_ | refine g_ret ?_ | refine g_return_n ?_ | refine g_exit ?_ | refine g_skip ?_)
  refine o_move ?_
  refine o_peql rfl ?_
  first | refine g_endt ?_ | refine g_end ?_
  first | refine g_seq (g_cond_f rfl (rfl) ?_) | refine g_cond_f rfl (rfl) ?_
  repeat (first | refine g_endt ?_ | refine g_end ?_ | refine g_then ?_ | refine g_in_normal ?_ | refine g_then_ret ?_ | refine g_in_ret ?_ | refine g_then_exit ?_ | refine g_in_exit rfl ?_ | refine g_in_exit_ne (by decide) ?_ | refine g_seq ?_ | refine g_region ?_ | refine g_block ?_ | refine g_ret ?_ | refine g_return_n ?_ | refine g_exit ?_ | refine g_skip ?_)
  refine g_draw [10, 11] [0,1,2,3,4,5,6,7,8,9,10,11,12] [SetASE p ys, cellsB m #[.pointer (some ⟨p, 0, none⟩)] 115, cellsB b k.val.cells 23] mixed rfl ?_
  refine ob_q rfl rfl ⟨_, fun X Q h => o_move (g_end (h _ _ ⟨rfl, rfl⟩)), ?_⟩
  refine ob_q rfl rfl ⟨_, fun X Q h => o_nil rfl (g_end (h _ _ ⟨rfl, rfl⟩)), ?_⟩
  refine ob_q rfl rfl ⟨_, fun X Q h => o_field rfl (g_end (h _ _ ⟨rfl, rfl⟩)), ?_⟩
  refine ob_q rfl rfl ⟨_, fun X Q h => o_load1 (v := .pointer (some ⟨p, 0, none⟩)) rfl rfl (g_end (h _ _ ⟨rfl, rfl⟩)), ?_⟩
  refine ob_q rfl rfl ⟨_, fun X Q h => o_loadN (v := k.val) rfl rfl rfl (g_end (h _ _ ⟨rfl, rfl⟩)), ?_⟩
  refine ob_q rfl rfl ⟨_, fun X Q h => o_call (atSE_spec k) rfl rfl <| by rintro _ _ ⟨rfl, rfl⟩; exact (g_end (h _ _ ⟨rfl, rfl⟩)), ?_⟩
  refine ob_q rfl rfl ⟨_, fun X Q h => o_call (GetMSE_spec p ys ⟨k, PgSE.zero.v⟩ hs (by omega)) rfl rfl <| by rintro _ _ ⟨rfl, rfl⟩; exact (g_end (h _ _ ⟨rfl, rfl⟩)), ?_⟩
  refine ob_q rfl rfl ⟨_, fun X Q h => o_move (g_end (h _ _ ⟨rfl, rfl⟩)), ?_⟩
  refine ob_q rfl rfl ⟨_, fun X Q h => o_extract rfl rfl (g_end (h _ _ ⟨rfl, rfl⟩)), ?_⟩
  refine ob_q rfl rfl ⟨_, fun X Q h => o_extract rfl rfl (g_end (h _ _ ⟨rfl, rfl⟩)), ?_⟩
  generalize ho : getM PgSE.cmp ys ⟨k, PgSE.zero.v⟩ = o
  refine ob_l rfl rfl fun Qz hz => o_alloc fun r => g_end (hz _ _ ⟨_, ob_fin, ?_⟩)
  clear hz Qz
  refine ob_l rfl rfl fun Qz hz => o_store (v := (o.getD PgSE.zero).val) rfl rfl rfl rfl rfl <| g_end (hz _ _ ⟨_, ob_fin, ?_⟩)
  clear hz Qz
  refine ob_q rfl rfl ⟨_, fun X Q h => o_assign (g_end (h _ _ ⟨rfl, rfl⟩)), ?_⟩
  refine ob_nil ?_
  refine G.norm r (o.getD PgSE.zero).val.cells rfl ?_
  repeat (first | refine g_endt ?_ | refine g_end ?_ | refine g_then ?_ | refine g_in_normal ?_ | refine g_then_ret ?_ | refine g_in_ret ?_ | refine g_then_exit ?_ | refine g_in_exit rfl ?_ | refine g_in_exit_ne (by decide) ?_ | refine g_seq ?_ | refine g_region ?_ | refine g_block ?_ | refine g_ret ?_ | refine g_return_n ?_ | refine g_exit ?_ | refine g_skip ?_)
  refine o_move ?_
  refine o_not rfl ?_
  refine g_endt ?_
  cases o with
  | none =>
    first | refine g_seq (g_cond_t rfl (rfl) ?_) | refine g_cond_t rfl (rfl) ?_
    repeat (first | refine g_endt ?_ | refine g_end ?_ | refine g_then ?_ | refine g_in_normal ?_ | refine g_then_ret ?_ | refine g_in_ret ?_ | refine g_then_exit ?_ | refine g_in_exit rfl ?_ | refine g_in_exit_ne (by decide) ?_ | refine g_seq ?_ | refine g_region ?_ | refine g_block ?_ | refine g_ret ?_ | refine g_return_n ?_ | refine g_exit ?_ | refine g_skip ?_)
    refine g_draw [7] [0,1,2,3,4,5,6,7,8] [cellsB m #[.pointer (some ⟨p, 0, none⟩)] 115, cellsB b k.val.cells 23] mixed rfl ?_
    refine ob_q rfl rfl ⟨_, fun X Q h => o_move (g_end (h _ _ ⟨rfl, rfl⟩)), ?_⟩
    refine ob_q rfl rfl ⟨_, fun X Q h => o_nil rfl (g_end (h _ _ ⟨rfl, rfl⟩)), ?_⟩
    refine ob_q rfl rfl ⟨_, fun X Q h => o_field rfl (g_end (h _ _ ⟨rfl, rfl⟩)), ?_⟩
    refine ob_q rfl rfl ⟨_, fun X Q h => o_load1 (v := .pointer (some ⟨p, 0, none⟩)) rfl rfl (g_end (h _ _ ⟨rfl, rfl⟩)), ?_⟩
    refine ob_q rfl rfl ⟨_, fun X Q h => o_loadN (v := k.val) rfl rfl rfl (g_end (h _ _ ⟨rfl, rfl⟩)), ?_⟩
    refine ob_q rfl rfl ⟨_, fun X Q h => o_move (g_end (h _ _ ⟨rfl, rfl⟩)), ?_⟩
    refine ob_q rfl rfl ⟨_, fun X Q h => o_build (PgSE.mk k v).val (fun w => by kernel_rfl) (g_end (h _ _ ⟨rfl, rfl⟩)), ?_⟩
    refine ob_l rfl rfl fun Qz hz => o_call (PutSE_spec p ys ⟨k, v⟩ hs (by omega)) rfl rfl ?_
    rintro _ M1 ⟨i, there, rfl, hM, hk⟩
    have ht : there = false := by
      cases there with
      | false => rfl
      | true =>
        obtain ⟨y, hy, _⟩ := hk.2.1 rfl
        have hg : getM PgSE.cmp ys ⟨k, PgSE.zero.v⟩ = some y := getM_some PgSE.lin hs hk hy
        rw [ho] at hg; cases hg
    subst ht
    have hM : M1 = [SetASE p (putLSE ys k v i false)] := hM
    subst hM
    refine g_end (hz _ _ ⟨_, ob_fin, ?_⟩)
    clear hz Qz
    refine ob_q rfl rfl ⟨_, fun X Q h => o_assign (g_end (h _ _ ⟨rfl, rfl⟩)), ?_⟩
    refine ob_nil ?_
    refine shutMSE m p (putLSE ys k v i false) ?_
    repeat (first | refine g_endt ?_ | refine g_end ?_ | refine g_then ?_ | refine g_in_normal ?_ | refine g_then_ret ?_ | refine g_in_ret ?_ | refine g_then_exit ?_ | refine g_in_exit rfl ?_ | refine g_in_exit_ne (by decide) ?_ | refine g_seq ?_ | refine g_region ?_ | refine g_block ?_ | refine g_ret ?_ | refine g_return_n ?_ | refine g_exit ?_ | refine g_skip ?_)
    exact ret1 rfl (resT rfl) ⟨i, false, rfl, rfl, hk⟩
  | some old =>
    first | refine g_seq (g_cond_f rfl (rfl) ?_) | refine g_cond_f rfl (rfl) ?_
    obtain ⟨i, hi, hy⟩ : ∃ i, FindR PgSE.cmp ys ⟨k, PgSE.zero.v⟩ i true ∧ ys[i]? = some old := by
      have h1 := List.find?_some ho
      have h2 := List.mem_of_find?_eq_some ho
      obtain ⟨j, hj⟩ := List.mem_iff_getElem?.1 h2
      exact ⟨j, ⟨by have := (List.getElem?_eq_some_iff.1 hj).1; omega, fun _ => ⟨old, hj, by simpa using h1⟩, fun e => by cases e⟩, hj⟩
    have hc : PgSE.cmp old ⟨k, PgSE.zero.v⟩ = 0 := by
      obtain ⟨a, ha, ea⟩ := hi.2.1 rfl
      rw [hy] at ha; cases ha; exact ea
    refine G.norm r old.val.cells rfl ?_
    have hself : FindR PgSE.cmp ys old i true := ⟨hi.1, fun _ => ⟨old, hy, PgSE.lin.refl old⟩, fun e => by cases e⟩
    repeat (first | refine g_endt ?_ | refine g_end ?_ | refine g_then ?_ | refine g_in_normal ?_ | refine g_then_ret ?_ | refine g_in_ret ?_ | refine g_then_exit ?_ | refine g_in_exit rfl ?_ | refine g_in_exit_ne (by decide) ?_ | refine g_seq ?_ | refine g_region ?_ | refine g_block ?_ | refine g_ret ?_ | refine g_return_n ?_ | refine g_exit ?_ | refine g_skip ?_)
    refine g_draw [5] [0,1,2,3,4,5] [cellsB m #[.pointer (some ⟨p, 0, none⟩)] 115, cellsB r old.val.cells 113] mixed rfl ?_
    refine ob_q rfl rfl ⟨_, fun X Q h => o_move (g_end (h _ _ ⟨rfl, rfl⟩)), ?_⟩
    refine ob_q rfl rfl ⟨_, fun X Q h => o_nil rfl (g_end (h _ _ ⟨rfl, rfl⟩)), ?_⟩
    refine ob_q rfl rfl ⟨_, fun X Q h => o_field rfl (g_end (h _ _ ⟨rfl, rfl⟩)), ?_⟩
    refine ob_q rfl rfl ⟨_, fun X Q h => o_load1 (v := .pointer (some ⟨p, 0, none⟩)) rfl rfl (g_end (h _ _ ⟨rfl, rfl⟩)), ?_⟩
    refine ob_q rfl rfl ⟨_, fun X Q h => o_loadN (v := old.val) rfl rfl rfl (g_end (h _ _ ⟨rfl, rfl⟩)), ?_⟩
    refine ob_l rfl rfl fun Qz hz => o_call (DropSE_spec p ys old hs (by omega)) rfl rfl ?_
    rintro _ M1 ⟨i1, there, rfl, hM, hk⟩
    have ht : there = true := by
      cases there with
      | true => rfl
      | false =>
        obtain ⟨h1, h2⟩ := hk.2.2 rfl
        have h3 := PgSE.lin.refl old
        by_cases hlt : i < i1
        · have := h1 i old hlt hy; omega
        · have := h2 i old (by omega) hy; omega
    subst ht
    have hii : i1 = i := FindR.one PgSE.lin hs hk hself
    subst hii
    have hM : M1 = [SetASE p (ys.eraseIdx i1)] := hM
    subst hM
    refine g_end (hz _ _ ⟨_, ob_fin, ?_⟩)
    clear hz Qz
    refine ob_nil ?_
    repeat (first | refine g_endt ?_ | refine g_end ?_ | refine g_then ?_ | refine g_in_normal ?_ | refine g_then_ret ?_ | refine g_in_ret ?_ | refine g_then_exit ?_ | refine g_in_exit rfl ?_ | refine g_in_exit_ne (by decide) ?_ | refine g_seq ?_ | refine g_region ?_ | refine g_block ?_ | refine g_ret ?_ | refine g_return_n ?_ | refine g_exit ?_ | refine g_skip ?_)
    refine g_draw [8] [0,1,2,3,4,5,6,7,8] [cellsB m #[.pointer (some ⟨p, 0, none⟩)] 115, cellsB r old.val.cells 113] mixed rfl ?_
    refine ob_q rfl rfl ⟨_, fun X Q h => o_move (g_end (h _ _ ⟨rfl, rfl⟩)), ?_⟩
    refine ob_q rfl rfl ⟨_, fun X Q h => o_nil rfl (g_end (h _ _ ⟨rfl, rfl⟩)), ?_⟩
    refine ob_q rfl rfl ⟨_, fun X Q h => o_field rfl (g_end (h _ _ ⟨rfl, rfl⟩)), ?_⟩
    refine ob_q rfl rfl ⟨_, fun X Q h => o_load1 (v := .pointer (some ⟨p, 0, none⟩)) rfl rfl (g_end (h _ _ ⟨rfl, rfl⟩)), ?_⟩
    refine ob_q rfl rfl ⟨_, fun X Q h => o_field rfl (g_end (h _ _ ⟨rfl, rfl⟩)), ?_⟩
    refine ob_q rfl rfl ⟨_, fun X Q h => o_loadN (v := old.k.val) rfl rfl rfl (g_end (h _ _ ⟨rfl, rfl⟩)), ?_⟩
    refine ob_q rfl rfl ⟨_, fun X Q h => o_move (g_end (h _ _ ⟨rfl, rfl⟩)), ?_⟩
    refine ob_q rfl rfl ⟨_, fun X Q h => o_build (PgSE.mk old.k v).val (fun w => by kernel_rfl) (g_end (h _ _ ⟨rfl, rfl⟩)), ?_⟩
    refine ob_l rfl rfl fun Qz hz => o_call (PutSE_spec p (ys.eraseIdx i1) ⟨old.k, v⟩ (Srt.erase hs i1) (by have : (ys.eraseIdx i1).length ≤ ys.length := List.length_eraseIdx_le _ _; omega)) rfl rfl ?_
    rintro _ M2 ⟨i2, there, rfl, hM, hk2⟩
    have hrep := replace PgSE.lin hs hy (x := ⟨old.k, v⟩) (PgSE.lin.refl old) hk2
    obtain ⟨rfl, hrep⟩ := hrep
    have hM : M2 = [SetASE p (putLSE ys k v i1 true)] := by
      rw [hM]
      show [SetASE p _] = [SetASE p (ys.set i1 ⟨(ys[i1]?.map (·.k)).getD k, v⟩)]
      rw [hy]
      show [SetASE p ((ys.eraseIdx i1).take i2 ++ ⟨old.k, v⟩ :: (ys.eraseIdx i1).drop i2)] = _
      rw [hrep]
      rfl
    subst hM
    refine g_end (hz _ _ ⟨_, ob_fin, ?_⟩)
    clear hz Qz
    refine ob_nil ?_
    repeat (first | refine g_endt ?_ | refine g_end ?_ | refine g_then ?_ | refine g_in_normal ?_ | refine g_then_ret ?_ | refine g_in_ret ?_ | refine g_then_exit ?_ | refine g_in_exit rfl ?_ | refine g_in_exit_ne (by decide) ?_ | refine g_seq ?_ | refine g_region ?_ | refine g_block ?_ | refine g_ret ?_ | refine g_return_n ?_ | refine g_exit ?_ | refine g_skip ?_)
    refine o_assign ?_
    first | refine g_endt ?_ | refine g_end ?_
    refine shutMSE m p (putLSE ys k v i1 true) ?_
    repeat (first | refine g_endt ?_ | refine g_end ?_ | refine g_then ?_ | refine g_in_normal ?_ | refine g_then_ret ?_ | refine g_in_ret ?_ | refine g_then_exit ?_ | refine g_in_exit rfl ?_ | refine g_in_exit_ne (by decide) ?_ | refine g_seq ?_ | refine g_region ?_ | refine g_block ?_ | refine g_ret ?_ | refine g_return_n ?_ | refine g_exit ?_ | refine g_skip ?_)
    exact ret1 rfl (resT rfl) ⟨i1, true, rfl, rfl, hi⟩
end Go.Proofs.Ytdpbjoldgiikkaa
/- An ordered map's functions, for one type of keys and one of values: asked. -/
namespace Go.Proofs.Ytdpbjoldgiikkaa
open Go Go.Sl
attribute [local irreducible] Code.wpIn roundPost bodyPostM runL Ret Meets Begin

theorem GetMapSE_spec (m : Nat) (ys : List PgSE) (k : SymD) (hs : Srt PgSE.cmp ys) (hl : ys.length < 1000000000) : Ctr Try.prog 77 [.pointer (some ⟨m, 0, none⟩), k.val] [MapASE m ys]
    (fun u M => u = .tuple #[PgSE.vval ((getM PgSE.cmp ys ⟨k, PgSE.zero.v⟩).getD PgSE.zero).v, .bool (getM PgSE.cmp ys ⟨k, PgSE.zero.v⟩).isSome] ∧ M = [MapASE m ys]) := by
  refine spec_of Try.func77 rfl Try.ntmps77 rfl fun w0 F => ?_
  repeat (first | refine g_endt ?_ | refine g_end ?_ | refine g_then ?_ | refine g_in_normal ?_ | refine g_then_ret ?_ | refine g_in_ret ?_ | refine g_then_exit ?_ | refine g_in_exit rfl ?_ | refine g_in_exit_ne (by decide) ?_ | refine g_seq ?_ | refine g_region ?_ | refine g_block ?_ | refine g_ret ?_ | refine g_return_n ?_ | refine g_exit ?_ | refine g_skip ?_)
  refine openMSE m ys fun p => ?_
  refine o_boxc k.val.cells rfl rfl fun b => ?_
  refine o_assign ?_
  refine o_assign ?_
  refine g_endt ?_
  repeat (first | refine g_endt ?_ | refine g_end ?_ | refine g_then ?_ | refine g_in_normal ?_ | refine g_then_ret ?_ | refine g_in_ret ?_ | refine g_then_exit ?_ | refine g_in_exit rfl ?_ | refine g_in_exit_ne (by decide) ?_ | refine g_seq ?_ | refine g_region ?_ | refine g_block ?_ | refine g_ret ?_ | refine g_return_n ?_ | refine g_exit ?_ | refine g_skip ?_)
  refine o_move ?_
  refine o_peql rfl ?_
  first | refine g_endt ?_ | refine g_end ?_
  first | refine g_seq (g_cond_f rfl (rfl) ?_) | refine g_cond_f rfl (rfl) ?_
  repeat (first | refine g_endt ?_ | refine g_end ?_ | refine g_then ?_ | refine g_in_normal ?_ | refine g_then_ret ?_ | refine g_in_ret ?_ | refine g_then_exit ?_ | refine g_in_exit rfl ?_ | refine g_in_exit_ne (by decide) ?_ | refine g_seq ?_ | refine g_region ?_ | refine g_block ?_ | refine g_ret ?_ | refine g_return_n ?_ | refine g_exit ?_ | refine g_skip ?_)
  refine g_draw [10, 11] [0,1,2,3,4,5,6,7,8,9,10,11,12] [SetASE p ys, cellsB m #[.pointer (some ⟨p, 0, none⟩)] 115, cellsB b k.val.cells 23] mixed rfl ?_
  refine ob_q rfl rfl ⟨_, fun X Q h => o_move (g_end (h _ _ ⟨rfl, rfl⟩)), ?_⟩
  refine ob_q rfl rfl ⟨_, fun X Q h => o_nil rfl (g_end (h _ _ ⟨rfl, rfl⟩)), ?_⟩
  refine ob_q rfl rfl ⟨_, fun X Q h => o_field rfl (g_end (h _ _ ⟨rfl, rfl⟩)), ?_⟩
  refine ob_q rfl rfl ⟨_, fun X Q h => o_load1 (v := .pointer (some ⟨p, 0, none⟩)) rfl rfl (g_end (h _ _ ⟨rfl, rfl⟩)), ?_⟩
  refine ob_q rfl rfl ⟨_, fun X Q h => o_loadN (v := k.val) rfl rfl rfl (g_end (h _ _ ⟨rfl, rfl⟩)), ?_⟩
  refine ob_q rfl rfl ⟨_, fun X Q h => o_call (atSE_spec k) rfl rfl <| by rintro _ _ ⟨rfl, rfl⟩; exact (g_end (h _ _ ⟨rfl, rfl⟩)), ?_⟩
  refine ob_q rfl rfl ⟨_, fun X Q h => o_call (GetMSE_spec p ys ⟨k, PgSE.zero.v⟩ hs hl) rfl rfl <| by rintro _ _ ⟨rfl, rfl⟩; exact (g_end (h _ _ ⟨rfl, rfl⟩)), ?_⟩
  refine ob_q rfl rfl ⟨_, fun X Q h => o_move (g_end (h _ _ ⟨rfl, rfl⟩)), ?_⟩
  refine ob_q rfl rfl ⟨_, fun X Q h => o_extract rfl rfl (g_end (h _ _ ⟨rfl, rfl⟩)), ?_⟩
  refine ob_q rfl rfl ⟨_, fun X Q h => o_extract rfl rfl (g_end (h _ _ ⟨rfl, rfl⟩)), ?_⟩
  generalize ho : getM PgSE.cmp ys ⟨k, PgSE.zero.v⟩ = o
  refine ob_l rfl rfl fun Qz hz => o_alloc fun r => g_end (hz _ _ ⟨_, ob_fin, ?_⟩)
  clear hz Qz
  refine ob_l rfl rfl fun Qz hz => o_store (v := (o.getD PgSE.zero).val) rfl rfl rfl rfl rfl <| g_end (hz _ _ ⟨_, ob_fin, ?_⟩)
  clear hz Qz
  refine ob_q rfl rfl ⟨_, fun X Q h => o_assign (g_end (h _ _ ⟨rfl, rfl⟩)), ?_⟩
  refine ob_nil ?_
  refine G.norm r (o.getD PgSE.zero).val.cells rfl ?_
  generalize o.getD PgSE.zero = y
  repeat (first | refine g_endt ?_ | refine g_end ?_ | refine g_then ?_ | refine g_in_normal ?_ | refine g_then_ret ?_ | refine g_in_ret ?_ | refine g_then_exit ?_ | refine g_in_exit rfl ?_ | refine g_in_exit_ne (by decide) ?_ | refine g_seq ?_ | refine g_region ?_ | refine g_block ?_ | refine g_ret ?_ | refine g_return_n ?_ | refine g_exit ?_ | refine g_skip ?_)
  refine o_field rfl ?_
  refine o_load1 (v := PgSE.vval y.v) rfl rfl ?_
  refine o_move ?_
  refine o_assign ?_
  refine o_assign ?_
  refine g_endt ?_
  refine shutMSE m p ys ?_
  repeat (first | refine g_endt ?_ | refine g_end ?_ | refine g_then ?_ | refine g_in_normal ?_ | refine g_then_ret ?_ | refine g_in_ret ?_ | refine g_then_exit ?_ | refine g_in_exit rfl ?_ | refine g_in_exit_ne (by decide) ?_ | refine g_seq ?_ | refine g_region ?_ | refine g_block ?_ | refine g_ret ?_ | refine g_return_n ?_ | refine g_exit ?_ | refine g_skip ?_)
  exact ret2 (K := [MapASE m ys]) rfl (resT rfl) (resT rfl) ⟨rfl, rfl⟩
end Go.Proofs.Ytdpbjoldgiikkaa
/- An ordered map's functions, for one type of keys and one of values: a key more that was not there. -/
namespace Go.Proofs.Ytdpbjoldgiikkaa
open Go Go.Sl
attribute [local irreducible] Code.wpIn roundPost bodyPostM runL Ret Meets Begin

theorem PutNMSE_spec (m : Nat) (ys : List PgSE) (k : SymD) (v : Option Nat) (hs : Srt PgSE.cmp ys) (hl : ys.length < 999999999) (hn : hasC PgSE.cmp ys ⟨k, v⟩ = false) : Ctr Try.prog 85 [.pointer (some ⟨m, 0, none⟩), k.val, PgSE.vval v] [MapASE m ys]
    (fun u M => u = .bool true ∧ M = [MapASE m (insC PgSE.cmp ys ⟨k, v⟩)]) := (PutMSE_spec m ys k v hs hl).mono fun u M ⟨i, there, h1, h2, h3⟩ => by
  have e := hasC_of h3
  rw [hn] at e
  subst e
  have h4 := insC_of PgSE.lin hs h3
  rw [h1, h2, ← h4]
  exact ⟨rfl, rfl⟩
theorem GetNMSE_spec (m : Nat) (ys : List PgSE) (k : SymD) (hs : Srt PgSE.cmp ys) (hl : ys.length < 1000000000) {o : Option PgSE} (ho : getM PgSE.cmp ys ⟨k, PgSE.zero.v⟩ = o) : Ctr Try.prog 77 [.pointer (some ⟨m, 0, none⟩), k.val] [MapASE m ys]
    (fun u M => u = .tuple #[PgSE.vval (o.getD PgSE.zero).v, .bool o.isSome] ∧ M = [MapASE m ys]) := ho ▸ GetMapSE_spec m ys k hs hl
end Go.Proofs.Ytdpbjoldgiikkaa
/- An ordered map's functions, for one type of keys and one of values: dropped. -/
namespace Go.Proofs.Ytdpbjoldgiikkaa
open Go Go.Sl
attribute [local irreducible] Code.wpIn roundPost bodyPostM runL Ret Meets Begin

theorem DropMSE_spec (m : Nat) (ys : List PgSE) (k : SymD) (hs : Srt PgSE.cmp ys) (hl : ys.length < 1000000000) : Ctr Try.prog 83 [.pointer (some ⟨m, 0, none⟩), k.val] [MapASE m ys]
    (fun u M => ∃ (i : Nat) (there : Bool), u = .tuple #[PgSE.vval ((cond there ys[i]? none).getD PgSE.zero).v, .bool there] ∧ M = [MapASE m (cond there (ys.eraseIdx i) ys)] ∧ FindR PgSE.cmp ys ⟨k, PgSE.zero.v⟩ i there) := by
  refine spec_of Try.func83 rfl Try.ntmps83 rfl fun w0 F => ?_
  repeat (first | refine g_endt ?_ | refine g_end ?_ | refine g_then ?_ | refine g_in_normal ?_ | refine g_then_ret ?_ | refine g_in_ret ?_ | refine g_then_exit ?_ | refine g_in_exit rfl ?_ | refine g_in_exit_ne (by decide) ?_ | refine g_seq ?_ | refine g_region ?_ | refine g_block ?_ | refine g_ret ?_ | refine g_return_n ?_ | refine g_exit ?_ | refine g_skip ?_)
  refine openMSE m ys fun p => ?_
  refine o_boxc k.val.cells rfl rfl fun b => ?_
  refine o_assign ?_
  refine o_assign ?_
  refine g_endt ?_
  repeat (first | refine g_endt ?_ | refine g_end ?_ | refine g_then ?_ | refine g_in_normal ?_ | refine g_then_ret ?_ | refine g_in_ret ?_ | refine g_then_exit ?_ | refine g_in_exit rfl ?_ | refine g_in_exit_ne (by decide) ?_ | refine g_seq ?_ | refine g_region ?_ | refine g_block ?_ | refine g_ret ?_ | refine g_return_n ?_ | refine g_exit ?_ | refine g_skip ?_)
  refine o_move ?_
  refine o_peql rfl ?_
  first | refine g_endt ?_ | refine g_end ?_
  first | refine g_seq (g_cond_f rfl (rfl) ?_) | refine g_cond_f rfl (rfl) ?_
  repeat (first | refine g_endt ?_ | refine g_end ?_ | refine g_then ?_ | refine g_in_normal ?_ | refine g_then_ret ?_ | refine g_in_ret ?_ | refine g_then_exit ?_ | refine g_in_exit rfl ?_ | refine g_in_exit_ne (by decide) ?_ | refine g_seq ?_ | refine g_region ?_ | refine g_block ?_ | refine g_ret ?_ | refine g_return_n ?_ | refine g_exit ?_ | refine g_skip ?_)
  refine g_draw [10, 11] [0,1,2,3,4,5,6,7,8,9,10,11,12] [SetASE p ys, cellsB m #[.pointer (some ⟨p, 0, none⟩)] 115, cellsB b k.val.cells 23] mixed rfl ?_
  refine ob_q rfl rfl ⟨_, fun X Q h => o_move (g_end (h _ _ ⟨rfl, rfl⟩)), ?_⟩
  refine ob_q rfl rfl ⟨_, fun X Q h => o_nil rfl (g_end (h _ _ ⟨rfl, rfl⟩)), ?_⟩
  refine ob_q rfl rfl ⟨_, fun X Q h => o_field rfl (g_end (h _ _ ⟨rfl, rfl⟩)), ?_⟩
  refine ob_q rfl rfl ⟨_, fun X Q h => o_load1 (v := .pointer (some ⟨p, 0, none⟩)) rfl rfl (g_end (h _ _ ⟨rfl, rfl⟩)), ?_⟩
  refine ob_q rfl rfl ⟨_, fun X Q h => o_loadN (v := k.val) rfl rfl rfl (g_end (h _ _ ⟨rfl, rfl⟩)), ?_⟩
  refine ob_q rfl rfl ⟨_, fun X Q h => o_call (atSE_spec k) rfl rfl <| by rintro _ _ ⟨rfl, rfl⟩; exact (g_end (h _ _ ⟨rfl, rfl⟩)), ?_⟩
  refine ob_q rfl rfl ⟨_, fun X Q h => o_call (GetMSE_spec p ys ⟨k, PgSE.zero.v⟩ hs hl) rfl rfl <| by rintro _ _ ⟨rfl, rfl⟩; exact (g_end (h _ _ ⟨rfl, rfl⟩)), ?_⟩
  refine ob_q rfl rfl ⟨_, fun X Q h => o_move (g_end (h _ _ ⟨rfl, rfl⟩)), ?_⟩
  refine ob_q rfl rfl ⟨_, fun X Q h => o_extract rfl rfl (g_end (h _ _ ⟨rfl, rfl⟩)), ?_⟩
  refine ob_q rfl rfl ⟨_, fun X Q h => o_extract rfl rfl (g_end (h _ _ ⟨rfl, rfl⟩)), ?_⟩
  generalize ho : getM PgSE.cmp ys ⟨k, PgSE.zero.v⟩ = o
  refine ob_l rfl rfl fun Qz hz => o_alloc fun r => g_end (hz _ _ ⟨_, ob_fin, ?_⟩)
  clear hz Qz
  refine ob_l rfl rfl fun Qz hz => o_store (v := (o.getD PgSE.zero).val) rfl rfl rfl rfl rfl <| g_end (hz _ _ ⟨_, ob_fin, ?_⟩)
  clear hz Qz
  refine ob_q rfl rfl ⟨_, fun X Q h => o_assign (g_end (h _ _ ⟨rfl, rfl⟩)), ?_⟩
  refine ob_nil ?_
  refine G.norm r (o.getD PgSE.zero).val.cells rfl ?_
  repeat (first | refine g_endt ?_ | refine g_end ?_ | refine g_then ?_ | refine g_in_normal ?_ | refine g_then_ret ?_ | refine g_in_ret ?_ | refine g_then_exit ?_ | refine g_in_exit rfl ?_ | refine g_in_exit_ne (by decide) ?_ | refine g_seq ?_ | refine g_region ?_ | refine g_block ?_ | refine g_ret ?_ | refine g_return_n ?_ | refine g_exit ?_ | refine g_skip ?_)
  refine o_move ?_
  refine g_endt ?_
  cases o with
  | none =>
    first | refine g_seq (g_cond_f rfl (rfl) ?_) | refine g_cond_f rfl (rfl) ?_
    repeat (first | refine g_endt ?_ | refine g_end ?_ | refine g_then ?_ | refine g_in_normal ?_ | refine g_then_ret ?_ | refine g_in_ret ?_ | refine g_then_exit ?_ | refine g_in_exit rfl ?_ | refine g_in_exit_ne (by decide) ?_ | refine g_seq ?_ | refine g_region ?_ | refine g_block ?_ | refine g_ret ?_ | refine g_return_n ?_ | refine g_exit ?_ | refine g_skip ?_)
    refine G.norm r PgSE.zero.val.cells rfl ?_
    refine o_field rfl ?_
    refine o_load1 (v := PgSE.vval PgSE.zero.v) rfl rfl ?_
    refine o_move ?_
    refine o_assign ?_
    refine o_assign ?_
    refine g_endt ?_
    refine shutMSE m p ys ?_
    obtain ⟨i, hi⟩ := find_none PgSE.lin hs ho
    repeat (first | refine g_endt ?_ | refine g_end ?_ | refine g_then ?_ | refine g_in_normal ?_ | refine g_then_ret ?_ | refine g_in_ret ?_ | refine g_then_exit ?_ | refine g_in_exit rfl ?_ | refine g_in_exit_ne (by decide) ?_ | refine g_seq ?_ | refine g_region ?_ | refine g_block ?_ | refine g_ret ?_ | refine g_return_n ?_ | refine g_exit ?_ | refine g_skip ?_)
    exact ret2 (K := [MapASE m ys]) rfl (resT rfl) (resT rfl) ⟨i, false, rfl, rfl, hi⟩
  | some old =>
    first | refine g_seq (g_cond_t rfl (rfl) ?_) | refine g_cond_t rfl (rfl) ?_
    obtain ⟨i, hi, hy⟩ : ∃ i, FindR PgSE.cmp ys ⟨k, PgSE.zero.v⟩ i true ∧ ys[i]? = some old := by
      have h1 := List.find?_some ho
      have h2 := List.mem_of_find?_eq_some ho
      obtain ⟨j, hj⟩ := List.mem_iff_getElem?.1 h2
      exact ⟨j, ⟨by have := (List.getElem?_eq_some_iff.1 hj).1; omega, fun _ => ⟨old, hj, by simpa using h1⟩, fun e => by cases e⟩, hj⟩
    refine G.norm r old.val.cells rfl ?_
    have hself : FindR PgSE.cmp ys old i true := ⟨hi.1, fun _ => ⟨old, hy, PgSE.lin.refl old⟩, fun e => by cases e⟩
    repeat (first | refine g_endt ?_ | refine g_end ?_ | refine g_then ?_ | refine g_in_normal ?_ | refine g_then_ret ?_ | refine g_in_ret ?_ | refine g_then_exit ?_ | refine g_in_exit rfl ?_ | refine g_in_exit_ne (by decide) ?_ | refine g_seq ?_ | refine g_region ?_ | refine g_block ?_ | refine g_ret ?_ | refine g_return_n ?_ | refine g_exit ?_ | refine g_skip ?_)
    refine g_draw [5] [0,1,2,3,4,5] [cellsB m #[.pointer (some ⟨p, 0, none⟩)] 115, cellsB r old.val.cells 113] mixed rfl ?_
    refine ob_q rfl rfl ⟨_, fun X Q h => o_move (g_end (h _ _ ⟨rfl, rfl⟩)), ?_⟩
    refine ob_q rfl rfl ⟨_, fun X Q h => o_nil rfl (g_end (h _ _ ⟨rfl, rfl⟩)), ?_⟩
    refine ob_q rfl rfl ⟨_, fun X Q h => o_field rfl (g_end (h _ _ ⟨rfl, rfl⟩)), ?_⟩
    refine ob_q rfl rfl ⟨_, fun X Q h => o_load1 (v := .pointer (some ⟨p, 0, none⟩)) rfl rfl (g_end (h _ _ ⟨rfl, rfl⟩)), ?_⟩
    refine ob_q rfl rfl ⟨_, fun X Q h => o_loadN (v := old.val) rfl rfl rfl (g_end (h _ _ ⟨rfl, rfl⟩)), ?_⟩
    refine ob_l rfl rfl fun Qz hz => o_call (DropSE_spec p ys old hs (by omega)) rfl rfl ?_
    rintro _ M1 ⟨i1, there, rfl, hM, hk⟩
    have ht : there = true := by
      cases there with
      | true => rfl
      | false =>
        obtain ⟨h1, h2⟩ := hk.2.2 rfl
        have h3 := PgSE.lin.refl old
        by_cases hlt : i < i1
        · have := h1 i old hlt hy; omega
        · have := h2 i old (by omega) hy; omega
    subst ht
    have hii : i1 = i := FindR.one PgSE.lin hs hk hself
    subst hii
    have hM : M1 = [SetASE p (ys.eraseIdx i1)] := hM
    subst hM
    refine g_end (hz _ _ ⟨_, ob_fin, ?_⟩)
    clear hz Qz
    refine ob_nil ?_
    repeat (first | refine g_endt ?_ | refine g_end ?_ | refine g_then ?_ | refine g_in_normal ?_ | refine g_then_ret ?_ | refine g_in_ret ?_ | refine g_then_exit ?_ | refine g_in_exit rfl ?_ | refine g_in_exit_ne (by decide) ?_ | refine g_seq ?_ | refine g_region ?_ | refine g_block ?_ | refine g_ret ?_ | refine g_return_n ?_ | refine g_exit ?_ | refine g_skip ?_)
    refine o_field rfl ?_
    refine o_load1 (v := PgSE.vval old.v) rfl rfl ?_
    refine o_move ?_
    refine o_assign ?_
    refine o_assign ?_
    refine g_endt ?_
    refine shutMSE m p (ys.eraseIdx i1) ?_
    repeat (first | refine g_endt ?_ | refine g_end ?_ | refine g_then ?_ | refine g_in_normal ?_ | refine g_then_ret ?_ | refine g_in_ret ?_ | refine g_then_exit ?_ | refine g_in_exit rfl ?_ | refine g_in_exit_ne (by decide) ?_ | refine g_seq ?_ | refine g_region ?_ | refine g_block ?_ | refine g_ret ?_ | refine g_return_n ?_ | refine g_exit ?_ | refine g_skip ?_)
    exact ret2 (K := [MapASE m (ys.eraseIdx i1)]) rfl (resT rfl) (resT rfl) ⟨i1, true, by rw [cond_true, hy]; rfl, rfl, hi⟩
end Go.Proofs.Ytdpbjoldgiikkaa
/- Members of an ordered set. -/
namespace Go.Proofs.Ytdpbjoldgiikkaa
open Go Go.Sl

def ElemD.enc (p : ElemD) : List Value := p.val.cells.toList
def ElemD.enc' (p : ElemD) : List Value := [p.val]
instance : EncLen ElemD.enc 12 := ⟨fun _ => rfl, fun e u h => by simp [ElemD.enc, ElemD.val, Value.cells] at h; rcases h with h | h | h | h | h | h | h | h | h | h | h | h <;> subst h <;> rfl⟩
theorem ElemD.lin : LinCmp ElemD.cmp := linElem
theorem ElemD.cmp_spec (a b : ElemD) : Ctr Try.prog 116 [a.val, b.val] [] (fun v M => v = .int .i64 (a.cmp b) ∧ M = []) := CompareElem_spec a b
end Go.Proofs.Ytdpbjoldgiikkaa
/- An ordered set's functions, for one type of members: find, own. -/
namespace Go.Proofs.Ytdpbjoldgiikkaa
open Go Go.Sl
attribute [local irreducible] Code.wpIn roundPost bodyPostM runL Ret Meets Begin

abbrev SetAES (p : Nat) (ys : List ElemD) : SProp := SetP 92 25 ElemD.enc 12 p ys
section
variable {w0 : World} {A : SProp} {L M : List SProp} {Φ : World → Prop}
theorem openES (p : Nat) (ys : List ElemD) [tk : Take1 L (SetAES p ys) M] (h : ∀ S c b, G w0 A (cellsB p #[.slice S ys.length c, .bool b] 92 :: row 25 ElemD.enc 12 b S c ys :: M) Φ) : G w0 A L Φ := SetP.open h
theorem shutES (p : Nat) (ys : List ElemD) (S : Option Addr) (c : Nat) (b : Bool) {len : Nat} (hl : ys.length = len) [tk : Take L [cellsB p #[.slice S len c, .bool b] 92, row 25 ElemD.enc 12 b S c ys] M] (h : G w0 A (SetAES p ys :: M) Φ) : G w0 A L Φ := SetP.shut (S := S) (c := c) (b := b) hl h
theorem shutFES (p : Nat) (ys : List ElemD) (S : Option Addr) (c : Nat) {len : Nat} (hl : ys.length = len) [tk : Take L [cellsB p #[.slice S len c, .bool false] 92, osl 25 ElemD.enc 12 S c ys] M] (h : G w0 A (SetAES p ys :: M) Φ) : G w0 A L Φ := SetP.shut (S := S) (c := c) (b := false) hl (tk := tk) h
theorem shutTES (p : Nat) (ys : List ElemD) (S : Option Addr) (c : Nat) {len : Nat} (hl : ys.length = len) [tk : Take L [cellsB p #[.slice S len c, .bool true] 92, psl ElemD.enc 12 S ys] M] (h : G w0 A (SetAES p ys :: M) Φ) : G w0 A L Φ := SetP.shut (S := S) (c := c) (b := true) hl (tk := tk) h
end
theorem findES_spec (p : Nat) (ys : List ElemD) (x : ElemD) (hs : Srt ElemD.cmp ys) (hl : ys.length ≤ 1000000000) : Ctr Try.prog 61 [.pointer (some ⟨p, 0, none⟩), x.val] [SetAES p ys]
    (fun v M => ∃ (k : Nat) (there : Bool), v = .tuple #[.int .i64 (k : Int), .bool there] ∧ M = [SetAES p ys] ∧ FindR ElemD.cmp ys x k there) := by
  refine spec_of Try.func61 rfl Try.ntmps61 rfl fun w0 F => ?_
  repeat (first | refine g_endt ?_ | refine g_end ?_ | refine g_then ?_ | refine g_in_normal ?_ | refine g_then_ret ?_ | refine g_in_ret ?_ | refine g_then_exit ?_ | refine g_in_exit rfl ?_ | refine g_in_exit_ne (by decide) ?_ | refine g_seq ?_ | refine g_region ?_ | refine g_block ?_ | refine g_ret ?_ | refine g_return_n ?_ | refine g_exit ?_ | refine g_skip ?_)
  refine openES p ys fun S c b => ?_
  refine o_boxc x.val.cells rfl rfl fun q => ?_
  refine o_assign ?_
  refine o_assign ?_
  first | refine g_endt ?_ | refine g_end ?_
  repeat (first | refine g_endt ?_ | refine g_end ?_ | refine g_then ?_ | refine g_in_normal ?_ | refine g_then_ret ?_ | refine g_in_ret ?_ | refine g_then_exit ?_ | refine g_in_exit rfl ?_ | refine g_in_exit_ne (by decide) ?_ | refine g_seq ?_ | refine g_region ?_ | refine g_block ?_ | refine g_ret ?_ | refine g_return_n ?_ | refine g_exit ?_ | refine g_skip ?_)
  refine g_draw [] [0,1,2,3,4,5,6] [cellsB p #[.slice S ys.length c, .bool b] 92] mixed rfl ?_
  refine ob_q rfl rfl ⟨_, fun X Q h => o_move (g_end (h _ _ ⟨rfl, rfl⟩)), ?_⟩
  refine ob_q rfl rfl ⟨_, fun X Q h => o_nil rfl (g_end (h _ _ ⟨rfl, rfl⟩)), ?_⟩
  refine ob_q rfl rfl ⟨_, fun X Q h => o_field rfl (g_end (h _ _ ⟨rfl, rfl⟩)), ?_⟩
  refine ob_q rfl rfl ⟨_, fun X Q h => o_load1 rfl rfl (g_end (h _ _ ⟨rfl, rfl⟩)), ?_⟩
  refine ob_q rfl rfl ⟨_, fun X Q h => o_len rfl rfl (g_end (h _ _ ⟨rfl, rfl⟩)), ?_⟩
  refine ob_q rfl rfl ⟨_, fun X Q h => o_assign (g_end (h _ _ ⟨rfl, rfl⟩)), ?_⟩
  refine ob_q rfl rfl ⟨_, fun X Q h => o_assign (g_end (h _ _ ⟨rfl, rfl⟩)), ?_⟩
  refine ob_nil ?_
  repeat (first | refine g_endt ?_ | refine g_end ?_ | refine g_then ?_ | refine g_in_normal ?_ | refine g_then_ret ?_ | refine g_in_ret ?_ | refine g_then_exit ?_ | refine g_in_exit rfl ?_ | refine g_in_exit_ne (by decide) ?_ | refine g_seq ?_ | refine g_region ?_ | refine g_block ?_ | refine g_ret ?_ | refine g_return_n ?_ | refine g_exit ?_ | refine g_skip ?_)
  refine g_loop (σ := {s : Nat × Nat // s.1 ≤ s.2 ∧ s.2 ≤ ys.length ∧ (∀ (j : Nat) (y : ElemD), j < s.1 → ys[j]? = some y → ElemD.cmp y x < 0) ∧ ∀ (j : Nat) (y : ElemD), s.2 ≤ j → ys[j]? = some y → 0 < ElemD.cmp y x})
    (S := fun s => [(0, .pointer (some ⟨p, 0, none⟩)), (3, .pointer (some ⟨q, 0, none⟩)), (6, .int .i64 (s.1.1 : Int)), (7, .int .i64 (s.1.2 : Int))])
    (H := fun _ => [cellsB p #[.slice S ys.length c, .bool b] 92, row 25 ElemD.enc 12 b S c ys, cellsB q x.val.cells 25]) (μ := fun s => s.1.2 - s.1.1)
    (s0 := ⟨(0, ys.length), Nat.zero_le _, Nat.le_refl _, fun j y h => absurd h (Nat.not_lt_zero j), fun j y h e => by rw [List.getElem?_eq_none h] at e; cases e⟩) (Sat.mem ⟨rfl, rfl, rfl, rfl, trivial⟩) ?_
  rintro ⟨⟨lo, hi⟩, h1, h2, h3, h4⟩ ρ'
  dsimp only at h1 h2 h3 h4 ⊢
  repeat (first | refine g_endt ?_ | refine g_end ?_ | refine g_then ?_ | refine g_in_normal ?_ | refine g_then_ret ?_ | refine g_in_ret ?_ | refine g_then_exit ?_ | refine g_in_exit rfl ?_ | refine g_in_exit_ne (by decide) ?_ | refine g_seq ?_ | refine g_region ?_ | refine g_block ?_ | refine g_ret ?_ | refine g_return_n ?_ | refine g_exit ?_ | refine g_skip ?_)
  refine o_move ?_
  refine o_move ?_
  refine o_lss rfl rfl ?_
  first | refine g_endt ?_ | refine g_end ?_
  by_cases h : lo < hi
  · first | refine g_seq (g_cond_t rfl (by simpa using h) ?_) | refine g_cond_t rfl (by simpa using h) ?_
    repeat (first | refine g_endt ?_ | refine g_end ?_ | refine g_then ?_ | refine g_in_normal ?_ | refine g_then_ret ?_ | refine g_in_ret ?_ | refine g_then_exit ?_ | refine g_in_exit rfl ?_ | refine g_in_exit_ne (by decide) ?_ | refine g_seq ?_ | refine g_region ?_ | refine g_block ?_ | refine g_ret ?_ | refine g_return_n ?_ | refine g_exit ?_ | refine g_skip ?_)
    refine o_move ?_
    refine o_move ?_
    refine o_move ?_
    refine o_sub (c := ((hi - lo : Nat) : Int)) rfl rfl (by omega) (by omega) (by omega) ?_
    refine o_quo (c := (((hi - lo) / 2 : Nat) : Int)) rfl rfl (by decide) (by rw [Int.tdiv_eq_ediv_of_nonneg (by omega)]; omega) (by omega) (by omega) ?_
    refine o_add (c := ((lo + (hi - lo) / 2 : Nat) : Int)) rfl rfl (by omega) (by omega) (by omega) ?_
    generalize hmid : lo + (hi - lo) / 2 = mid
    have hm1 : lo ≤ mid := by omega
    have hm2 : mid < hi := by omega
    have hm3 : mid < ys.length := by omega
    obtain ⟨y, hy⟩ : ∃ y, ys[mid]? = some y := ⟨_, List.getElem?_eq_getElem hm3⟩
    refine o_assign ?_
    refine g_endt ?_
    repeat (first | refine g_endt ?_ | refine g_end ?_ | refine g_then ?_ | refine g_in_normal ?_ | refine g_then_ret ?_ | refine g_in_ret ?_ | refine g_then_exit ?_ | refine g_in_exit rfl ?_ | refine g_in_exit_ne (by decide) ?_ | refine g_seq ?_ | refine g_region ?_ | refine g_block ?_ | refine g_ret ?_ | refine g_return_n ?_ | refine g_exit ?_ | refine g_skip ?_)
    refine g_draw [] [0,1,2,3,4,5,6,7,8,9,10] [cellsB p #[.slice S ys.length c, .bool b] 92, row 25 ElemD.enc 12 b S c ys, cellsB q x.val.cells 25] mixed rfl ?_
    refine ob_q rfl rfl ⟨_, fun X Q h => o_move (g_end (h _ _ ⟨rfl, rfl⟩)), ?_⟩
    refine ob_q rfl rfl ⟨_, fun X Q h => o_nil rfl (g_end (h _ _ ⟨rfl, rfl⟩)), ?_⟩
    refine ob_q rfl rfl ⟨_, fun X Q h => o_field rfl (g_end (h _ _ ⟨rfl, rfl⟩)), ?_⟩
    refine ob_q rfl rfl ⟨_, fun X Q h => o_load1 (v := .slice S ys.length c) rfl rfl (g_end (h _ _ ⟨rfl, rfl⟩)), ?_⟩
    refine ob_q rfl rfl ⟨_, fun X Q h => o_move (g_end (h _ _ ⟨rfl, rfl⟩)), ?_⟩
    refine ob_q rfl rfl ⟨_, fun X Q h => o_indexR (ys := ys) (i := mid) rfl rfl rfl hm3 rfl rfl (g_end (h _ _ ⟨rfl, rfl⟩)), ?_⟩
    refine ob_q rfl rfl ⟨_, fun X Q h => o_loadE (ys := ys) rfl rfl hy (g_end (h _ _ ⟨rfl, rfl⟩)), ?_⟩
    refine ob_q rfl rfl ⟨_, fun X Q h => o_iface (u := y.val) rfl (fun w => by kernel_rfl) (g_end (h _ _ ⟨rfl, rfl⟩)), ?_⟩
    refine ob_q rfl rfl ⟨_, fun X Q h => o_loadN (v := x.val) rfl rfl rfl (g_end (h _ _ ⟨rfl, rfl⟩)), ?_⟩
    refine ob_q rfl rfl ⟨_, fun X Q h => o_invoke (ElemD.cmp_spec y x) rfl rfl (fun w => by kernel_rfl) <| by rintro _ _ ⟨rfl, rfl⟩; exact (g_end (h _ _ ⟨rfl, rfl⟩)), ?_⟩
    refine ob_q rfl rfl ⟨_, fun X Q h => o_assign (g_end (h _ _ ⟨rfl, rfl⟩)), ?_⟩
    refine ob_nil ?_
    repeat (first | refine g_endt ?_ | refine g_end ?_ | refine g_then ?_ | refine g_in_normal ?_ | refine g_then_ret ?_ | refine g_in_ret ?_ | refine g_then_exit ?_ | refine g_in_exit rfl ?_ | refine g_in_exit_ne (by decide) ?_ | refine g_seq ?_ | refine g_region ?_ | refine g_block ?_ | refine g_ret ?_ | refine g_return_n ?_ | refine g_exit ?_ | refine g_skip ?_)
    refine o_move ?_
    refine o_eql rfl rfl ?_
    first | refine g_endt ?_ | refine g_end ?_
    by_cases hc : ElemD.cmp y x = 0
    · first | refine g_seq (g_cond_t rfl (by simpa using hc) ?_) | refine g_cond_t rfl (by simpa using hc) ?_
      repeat (first | refine g_endt ?_ | refine g_end ?_ | refine g_then ?_ | refine g_in_normal ?_ | refine g_then_ret ?_ | refine g_in_ret ?_ | refine g_then_exit ?_ | refine g_in_exit rfl ?_ | refine g_in_exit_ne (by decide) ?_ | refine g_seq ?_ | refine g_region ?_ | refine g_block ?_ | refine g_ret ?_ | refine g_return_n ?_ | refine g_exit ?_ | refine g_skip ?_)
      refine o_move ?_
      refine o_assign ?_
      refine o_assign ?_
      first | refine g_endt ?_ | refine g_end ?_
      refine shutES p ys S c b rfl ?_
      repeat (first | refine g_endt ?_ | refine g_end ?_ | refine g_then ?_ | refine g_in_normal ?_ | refine g_then_ret ?_ | refine g_in_ret ?_ | refine g_then_exit ?_ | refine g_in_exit rfl ?_ | refine g_in_exit_ne (by decide) ?_ | refine g_seq ?_ | refine g_region ?_ | refine g_block ?_ | refine g_ret ?_ | refine g_return_n ?_ | refine g_exit ?_ | refine g_skip ?_)
      exact ret2 rfl (resT rfl) (resT rfl) ⟨mid, true, rfl, rfl, by omega, fun _ => ⟨y, hy, hc⟩, fun e => by cases e⟩
    · first | refine g_seq (g_cond_f rfl (by simpa using hc) ?_) | refine g_cond_f rfl (by simpa using hc) ?_
      repeat (first | refine g_endt ?_ | refine g_end ?_ | refine g_then ?_ | refine g_in_normal ?_ | refine g_then_ret ?_ | refine g_in_ret ?_ | refine g_then_exit ?_ | refine g_in_exit rfl ?_ | refine g_in_exit_ne (by decide) ?_ | refine g_seq ?_ | refine g_region ?_ | refine g_block ?_ | refine g_ret ?_ | refine g_return_n ?_ | refine g_exit ?_ | refine g_skip ?_)
      refine o_move ?_
      refine o_lss rfl rfl ?_
      first | refine g_endt ?_ | refine g_end ?_
      by_cases hn : ElemD.cmp y x < 0
      · first | refine g_seq (g_cond_t rfl (by simpa using hn) ?_) | refine g_cond_t rfl (by simpa using hn) ?_
        repeat (first | refine g_endt ?_ | refine g_end ?_ | refine g_then ?_ | refine g_in_normal ?_ | refine g_then_ret ?_ | refine g_in_ret ?_ | refine g_then_exit ?_ | refine g_in_exit rfl ?_ | refine g_in_exit_ne (by decide) ?_ | refine g_seq ?_ | refine g_region ?_ | refine g_block ?_ | refine g_ret ?_ | refine g_return_n ?_ | refine g_exit ?_ | refine g_skip ?_)
        refine o_move ?_
        refine o_add (c := ((mid + 1 : Nat) : Int)) rfl rfl (by omega) (by omega) (by omega) ?_
        refine o_assign ?_
        first | refine g_endt ?_ | refine g_end ?_
        repeat (first | refine g_endt ?_ | refine g_end ?_ | refine g_then ?_ | refine g_in_normal ?_ | refine g_then_ret ?_ | refine g_in_ret ?_ | refine g_then_exit ?_ | refine g_in_exit rfl ?_ | refine g_in_exit_ne (by decide) ?_ | refine g_seq ?_ | refine g_region ?_ | refine g_block ?_ | refine g_ret ?_ | refine g_return_n ?_ | refine g_exit ?_ | refine g_skip ?_)
        refine g_meets ⟨(mid + 1, hi), by show mid + 1 ≤ hi; omega, h2, fun j y' hj hy' => ?_, h4⟩ (by show hi - (mid + 1) < hi - lo; omega) (Sat.mem ⟨rfl, rfl, rfl, rfl, trivial⟩)
        by_cases e : j = mid
        · subst e; rw [hy] at hy'; cases hy'; exact hn
        · exact ElemD.lin.trans _ _ _ (hs j mid y' y (by dsimp only at hj; omega) hy' hy) hn
      · first | refine g_seq (g_cond_f rfl (by simpa using hn) ?_) | refine g_cond_f rfl (by simpa using hn) ?_
        repeat (first | refine g_endt ?_ | refine g_end ?_ | refine g_then ?_ | refine g_in_normal ?_ | refine g_then_ret ?_ | refine g_in_ret ?_ | refine g_then_exit ?_ | refine g_in_exit rfl ?_ | refine g_in_exit_ne (by decide) ?_ | refine g_seq ?_ | refine g_region ?_ | refine g_block ?_ | refine g_ret ?_ | refine g_return_n ?_ | refine g_exit ?_ | refine g_skip ?_)
        refine o_move ?_
        refine o_assign ?_
        first | refine g_endt ?_ | refine g_end ?_
        repeat (first | refine g_endt ?_ | refine g_end ?_ | refine g_then ?_ | refine g_in_normal ?_ | refine g_then_ret ?_ | refine g_in_ret ?_ | refine g_then_exit ?_ | refine g_in_exit rfl ?_ | refine g_in_exit_ne (by decide) ?_ | refine g_seq ?_ | refine g_region ?_ | refine g_block ?_ | refine g_ret ?_ | refine g_return_n ?_ | refine g_exit ?_ | refine g_skip ?_)
        refine g_meets ⟨(lo, mid), hm1, by show mid ≤ ys.length; omega, h3, fun j y' hj hy' => ?_⟩ (by show mid - lo < hi - lo; omega) (Sat.mem ⟨rfl, rfl, rfl, rfl, trivial⟩)
        by_cases e : j = mid
        · subst e; rw [hy] at hy'; cases hy'; omega
        · have h5 := hs mid j y y' (by dsimp only at hj; omega) hy hy'
          have h6 := ElemD.lin.swap x y
          have h7 := ElemD.lin.trans x y y' (by omega) h5
          have h8 := ElemD.lin.swap x y'
          omega
  · first | refine g_seq (g_cond_f rfl (by simpa using h) ?_) | refine g_cond_f rfl (by simpa using h) ?_
    have e : lo = hi := by omega
    subst e
    repeat (first | refine g_endt ?_ | refine g_end ?_ | refine g_then ?_ | refine g_in_normal ?_ | refine g_then_ret ?_ | refine g_in_ret ?_ | refine g_then_exit ?_ | refine g_in_exit rfl ?_ | refine g_in_exit_ne (by decide) ?_ | refine g_seq ?_ | refine g_region ?_ | refine g_block ?_ | refine g_ret ?_ | refine g_return_n ?_ | refine g_exit ?_ | refine g_skip ?_)
    refine o_move ?_
    refine o_assign ?_
    refine o_assign ?_
    first | refine g_endt ?_ | refine g_end ?_
    refine shutES p ys S c b rfl ?_
    repeat (first | refine g_endt ?_ | refine g_end ?_ | refine g_then ?_ | refine g_in_normal ?_ | refine g_then_ret ?_ | refine g_in_ret ?_ | refine g_then_exit ?_ | refine g_in_exit rfl ?_ | refine g_in_exit_ne (by decide) ?_ | refine g_seq ?_ | refine g_region ?_ | refine g_block ?_ | refine g_ret ?_ | refine g_return_n ?_ | refine g_exit ?_ | refine g_skip ?_)
    exact ret2 rfl (resT rfl) (resT rfl) ⟨lo, false, rfl, rfl, h2, fun e => (by cases e), fun _ => ⟨h3, h4⟩⟩
end Go.Proofs.Ytdpbjoldgiikkaa
/- An ordered set's functions, for one type of members: own, Put. -/
namespace Go.Proofs.Ytdpbjoldgiikkaa
open Go Go.Sl
attribute [local irreducible] Code.wpIn roundPost bodyPostM runL Ret Meets Begin

theorem ownES_spec (p : Nat) (ys : List ElemD) (hl : ys.length ≤ 1000000000) : Ctr Try.prog 62 [.pointer (some ⟨p, 0, none⟩)] [SetAES p ys]
    (fun _ M => ∃ (S : Option Addr) (c : Nat), M = [cellsB p #[.slice S ys.length c, .bool false] 92, osl 25 ElemD.enc 12 S c ys]) := by
  refine spec_of Try.func62 rfl Try.ntmps62 rfl fun w0 F => ?_
  repeat (first | refine g_endt ?_ | refine g_end ?_ | refine g_then ?_ | refine g_in_normal ?_ | refine g_then_ret ?_ | refine g_in_ret ?_ | refine g_then_exit ?_ | refine g_in_exit rfl ?_ | refine g_in_exit_ne (by decide) ?_ | refine g_seq ?_ | refine g_region ?_ | refine g_block ?_ | refine g_ret ?_ | refine g_return_n ?_ | refine g_exit ?_ | refine g_skip ?_)
  refine openES p ys fun S c b => ?_
  refine o_move ?_
  refine o_nil rfl ?_
  refine o_field rfl ?_
  refine o_load1 (v := .bool b) rfl rfl ?_
  refine g_endt ?_
  cases b
  · first | refine g_seq (g_cond_f rfl (rfl) ?_) | refine g_cond_f rfl (rfl) ?_
    change G _ _ [cellsB p #[.slice S ys.length c, .bool false] 92, osl 25 ElemD.enc 12 S c ys] _
    repeat (first | refine g_endt ?_ | refine g_end ?_ | refine g_then ?_ | refine g_in_normal ?_ | refine g_then_ret ?_ | refine g_in_ret ?_ | refine g_then_exit ?_ | refine g_in_exit rfl ?_ | refine g_in_exit_ne (by decide) ?_ | refine g_seq ?_ | refine g_region ?_ | refine g_block ?_ | refine g_ret ?_ | refine g_return_n ?_ | refine g_exit ?_ | refine g_skip ?_)
    exact ret0 rfl ⟨S, c, rfl⟩
  · first | refine g_seq (g_cond_t rfl (rfl) ?_) | refine g_cond_t rfl (rfl) ?_
    change G _ _ [cellsB p #[.slice S ys.length c, .bool true] 92, psl ElemD.enc 12 S ys] _
    repeat (first | refine g_endt ?_ | refine g_end ?_ | refine g_then ?_ | refine g_in_normal ?_ | refine g_then_ret ?_ | refine g_in_ret ?_ | refine g_then_exit ?_ | refine g_in_exit rfl ?_ | refine g_in_exit_ne (by decide) ?_ | refine g_seq ?_ | refine g_region ?_ | refine g_block ?_ | refine g_ret ?_ | refine g_return_n ?_ | refine g_exit ?_ | refine g_skip ?_)
    refine g_draw [7, 12, 15] [0,1,2,3,4,5,6,8,9,10,11,7,12,13,14,15] [cellsB p #[.slice S ys.length c, .bool true] 92, psl ElemD.enc 12 S ys] mixed rfl ?_
    refine ob_q rfl rfl ⟨_, fun X Q h => o_move (g_end (h _ _ ⟨rfl, rfl⟩)), ?_⟩
    refine ob_q rfl rfl ⟨_, fun X Q h => o_move (g_end (h _ _ ⟨rfl, rfl⟩)), ?_⟩
    refine ob_q rfl rfl ⟨_, fun X Q h => o_nil rfl (g_end (h _ _ ⟨rfl, rfl⟩)), ?_⟩
    refine ob_q rfl rfl ⟨_, fun X Q h => o_field rfl (g_end (h _ _ ⟨rfl, rfl⟩)), ?_⟩
    refine ob_q rfl rfl ⟨_, fun X Q h => o_load1 (v := .slice S ys.length c) rfl rfl (g_end (h _ _ ⟨rfl, rfl⟩)), ?_⟩
    refine ob_q rfl rfl ⟨_, fun X Q h => o_len rfl rfl (g_end (h _ _ ⟨rfl, rfl⟩)), ?_⟩
    refine ob_q rfl rfl ⟨_, fun X Q h => o_add (c := ((ys.length + 1 : Nat) : Int)) rfl rfl (by omega) (by omega) (by omega) (g_end (h _ _ ⟨rfl, rfl⟩)), ?_⟩
    refine ob_q rfl rfl ⟨_, fun X Q h => o_move (g_end (h _ _ ⟨rfl, rfl⟩)), ?_⟩
    refine ob_q rfl rfl ⟨_, fun X Q h => o_nil rfl (g_end (h _ _ ⟨rfl, rfl⟩)), ?_⟩
    refine ob_q rfl rfl ⟨_, fun X Q h => o_field rfl (g_end (h _ _ ⟨rfl, rfl⟩)), ?_⟩
    refine ob_q rfl rfl ⟨_, fun X Q h => o_load1 (v := .slice S ys.length c) rfl rfl (g_end (h _ _ ⟨rfl, rfl⟩)), ?_⟩
    refine ob_l rfl rfl fun Qz hz => o_make0 (α := ElemD) (enc := ElemD.enc) rfl rfl rfl (by omega) (by simp [maxLen]; omega) fun T => g_end (hz _ _ ⟨_, ob_fin, ?_⟩)
    clear hz Qz
    refine ob_l rfl rfl fun Qz hz => o_append0 (ys := ys) rfl rfl rfl rfl rfl (by simp [maxLen]; omega) (by omega) fun U d => g_end (hz _ _ ⟨_, ob_fin, ?_⟩)
    clear hz Qz
    refine ob_q rfl rfl ⟨_, fun X Q h => o_nil rfl (g_end (h _ _ ⟨rfl, rfl⟩)), ?_⟩
    refine ob_q rfl rfl ⟨_, fun X Q h => o_field rfl (g_end (h _ _ ⟨rfl, rfl⟩)), ?_⟩
    refine ob_s ([]) rfl rfl rfl fun Qz hz => o_store (v := .slice U ys.length d) rfl rfl rfl rfl rfl <| g_end (hz _ _ ⟨_, ob_fin, ?_⟩)
    clear hz Qz
    refine ob_nil ?_
    repeat (first | refine g_endt ?_ | refine g_end ?_ | refine g_then ?_ | refine g_in_normal ?_ | refine g_then_ret ?_ | refine g_in_ret ?_ | refine g_then_exit ?_ | refine g_in_exit rfl ?_ | refine g_in_exit_ne (by decide) ?_ | refine g_seq ?_ | refine g_region ?_ | refine g_block ?_ | refine g_ret ?_ | refine g_return_n ?_ | refine g_exit ?_ | refine g_skip ?_)
    refine o_move ?_
    refine o_nil rfl ?_
    refine o_field rfl ?_
    refine o_store rfl rfl rfl rfl rfl ?_
    first | refine g_endt ?_ | refine g_end ?_
    repeat (first | refine g_endt ?_ | refine g_end ?_ | refine g_then ?_ | refine g_in_normal ?_ | refine g_then_ret ?_ | refine g_in_ret ?_ | refine g_then_exit ?_ | refine g_in_exit rfl ?_ | refine g_in_exit_ne (by decide) ?_ | refine g_seq ?_ | refine g_region ?_ | refine g_block ?_ | refine g_ret ?_ | refine g_return_n ?_ | refine g_exit ?_ | refine g_skip ?_)
    refine G.norm p #[.slice U ys.length d, .bool false] rfl ?_
    exact ret0 rfl ⟨U, d, rfl⟩
end Go.Proofs.Ytdpbjoldgiikkaa
/- An ordered set's functions, for one type of members: Put. -/
namespace Go.Proofs.Ytdpbjoldgiikkaa
open Go Go.Sl
attribute [local irreducible] Code.wpIn roundPost bodyPostM runL Ret Meets Begin

theorem take_snocPES {α : Type} (ys : List α) (i : Nat) (y : α) (h : ys[i]? = some y) : ys.take (i + 1) = ys.take i ++ [y] := by rw [List.take_add_one, h]; rfl
theorem gapES (ys : List ElemD) (i : Nat) (w y : ElemD) (hi : i < ys.length) (hy : ys[i]? = some y) : (ys.take (i + 1) ++ w :: ys.drop (i + 1)).set (i + 1) y = ys.take i ++ y :: ys.drop i := by
  have h1 : (ys.take (i + 1)).length = i + 1 := by simp; omega
  have h2 : ys.drop i = y :: ys.drop (i + 1) := by
    rw [List.drop_eq_getElem_cons hi]
    rw [List.getElem?_eq_getElem hi] at hy
    cases hy
    rfl
  rw [List.set_append_right _ _ (by omega), h1, Nat.sub_self, List.set_cons_zero, take_snocPES ys i y hy, h2]
  simp
theorem PutES_spec (p : Nat) (ys : List ElemD) (x : ElemD) (hs : Srt ElemD.cmp ys) (hl : ys.length < 1000000000) : Ctr Try.prog 39 [.pointer (some ⟨p, 0, none⟩), x.val] [SetAES p ys]
    (fun v M => ∃ (k : Nat) (there : Bool), v = .bool !there ∧ M = [SetAES p (cond there ys (ys.take k ++ x :: ys.drop k))] ∧ FindR ElemD.cmp ys x k there) := by
  refine spec_of Try.func39 rfl Try.ntmps39 rfl fun w0 F => ?_
  repeat (first | refine g_endt ?_ | refine g_end ?_ | refine g_then ?_ | refine g_in_normal ?_ | refine g_then_ret ?_ | refine g_in_ret ?_ | refine g_then_exit ?_ | refine g_in_exit rfl ?_ | refine g_in_exit_ne (by decide) ?_ | refine g_seq ?_ | refine g_region ?_ | refine g_block ?_ | refine g_ret ?_ | refine g_return_n ?_ | refine g_exit ?_ | refine g_skip ?_)
  refine o_boxc x.val.cells rfl rfl fun q => ?_
  refine o_assign ?_
  first | refine g_endt ?_ | refine g_end ?_
  repeat (first | refine g_endt ?_ | refine g_end ?_ | refine g_then ?_ | refine g_in_normal ?_ | refine g_then_ret ?_ | refine g_in_ret ?_ | refine g_then_exit ?_ | refine g_in_exit rfl ?_ | refine g_in_exit_ne (by decide) ?_ | refine g_seq ?_ | refine g_region ?_ | refine g_block ?_ | refine g_ret ?_ | refine g_return_n ?_ | refine g_exit ?_ | refine g_skip ?_)
  refine o_move ?_
  refine o_peql rfl ?_
  first | refine g_endt ?_ | refine g_end ?_
  first | refine g_seq (g_cond_f rfl (rfl) ?_) | refine g_cond_f rfl (rfl) ?_
  repeat (first | refine g_endt ?_ | refine g_end ?_ | refine g_then ?_ | refine g_in_normal ?_ | refine g_then_ret ?_ | refine g_in_ret ?_ | refine g_then_exit ?_ | refine g_in_exit rfl ?_ | refine g_in_exit_ne (by decide) ?_ | refine g_seq ?_ | refine g_region ?_ | refine g_block ?_ | refine g_ret ?_ | refine g_return_n ?_ | refine g_exit ?_ | refine g_skip ?_)
  refine o_move ?_
  refine o_loadN (v := x.val) rfl rfl rfl ?_
  refine o_call (findES_spec p ys x hs (by omega)) rfl rfl ?_
  rintro _ _ ⟨k, there, rfl, rfl, hk⟩
  refine o_move ?_
  refine o_extract rfl rfl ?_
  refine o_extract rfl rfl ?_
  refine o_assign ?_
  refine o_assign ?_
  first | refine g_endt ?_ | refine g_end ?_
  repeat (first | refine g_endt ?_ | refine g_end ?_ | refine g_then ?_ | refine g_in_normal ?_ | refine g_then_ret ?_ | refine g_in_ret ?_ | refine g_then_exit ?_ | refine g_in_exit rfl ?_ | refine g_in_exit_ne (by decide) ?_ | refine g_seq ?_ | refine g_region ?_ | refine g_block ?_ | refine g_ret ?_ | refine g_return_n ?_ | refine g_exit ?_ | refine g_skip ?_)
  refine o_move ?_
  refine g_endt ?_
  cases there
  case true =>
    first | refine g_seq (g_cond_t rfl (rfl) ?_) | refine g_cond_t rfl (rfl) ?_
    repeat (first | refine g_endt ?_ | refine g_end ?_ | refine g_then ?_ | refine g_in_normal ?_ | refine g_then_ret ?_ | refine g_in_ret ?_ | refine g_then_exit ?_ | refine g_in_exit rfl ?_ | refine g_in_exit_ne (by decide) ?_ | refine g_seq ?_ | refine g_region ?_ | refine g_block ?_ | refine g_ret ?_ | refine g_return_n ?_ | refine g_exit ?_ | refine g_skip ?_)
    refine o_assign ?_
    first | refine g_endt ?_ | refine g_end ?_
    repeat (first | refine g_endt ?_ | refine g_end ?_ | refine g_then ?_ | refine g_in_normal ?_ | refine g_then_ret ?_ | refine g_in_ret ?_ | refine g_then_exit ?_ | refine g_in_exit rfl ?_ | refine g_in_exit_ne (by decide) ?_ | refine g_seq ?_ | refine g_region ?_ | refine g_block ?_ | refine g_ret ?_ | refine g_return_n ?_ | refine g_exit ?_ | refine g_skip ?_)
    exact ret1 (K := [SetAES p ys]) rfl (resT rfl) ⟨k, true, rfl, rfl, hk⟩
  first | refine g_seq (g_cond_f rfl (rfl) ?_) | refine g_cond_f rfl (rfl) ?_
  repeat (first | refine g_endt ?_ | refine g_end ?_ | refine g_then ?_ | refine g_in_normal ?_ | refine g_then_ret ?_ | refine g_in_ret ?_ | refine g_then_exit ?_ | refine g_in_exit rfl ?_ | refine g_in_exit_ne (by decide) ?_ | refine g_seq ?_ | refine g_region ?_ | refine g_block ?_ | refine g_ret ?_ | refine g_return_n ?_ | refine g_exit ?_ | refine g_skip ?_)
  refine o_move ?_
  refine o_call (ownES_spec p ys (by omega)) rfl rfl ?_
  rintro _ _ ⟨S, c, rfl⟩
  refine g_endt ?_
  repeat (first | refine g_endt ?_ | refine g_end ?_ | refine g_then ?_ | refine g_in_normal ?_ | refine g_then_ret ?_ | refine g_in_ret ?_ | refine g_then_exit ?_ | refine g_in_exit rfl ?_ | refine g_in_exit_ne (by decide) ?_ | refine g_seq ?_ | refine g_region ?_ | refine g_block ?_ | refine g_ret ?_ | refine g_return_n ?_ | refine g_exit ?_ | refine g_skip ?_)
  refine g_draw [6, 7, 10] [0,1,2,3,4,5,6,7,8,9,10] [cellsB p #[.slice S ys.length c, .bool false] 92, cellsB q x.val.cells 25] mixed rfl ?_
  refine ob_q rfl rfl ⟨_, fun X Q h => o_move (g_end (h _ _ ⟨rfl, rfl⟩)), ?_⟩
  refine ob_q rfl rfl ⟨_, fun X Q h => o_move (g_end (h _ _ ⟨rfl, rfl⟩)), ?_⟩
  refine ob_q rfl rfl ⟨_, fun X Q h => o_nil rfl (g_end (h _ _ ⟨rfl, rfl⟩)), ?_⟩
  refine ob_q rfl rfl ⟨_, fun X Q h => o_field rfl (g_end (h _ _ ⟨rfl, rfl⟩)), ?_⟩
  refine ob_q rfl rfl ⟨_, fun X Q h => o_load1 (v := .slice S ys.length c) rfl rfl (g_end (h _ _ ⟨rfl, rfl⟩)), ?_⟩
  refine ob_q rfl rfl ⟨_, fun X Q h => o_loadN (v := x.val) rfl rfl rfl (g_end (h _ _ ⟨rfl, rfl⟩)), ?_⟩
  refine ob_l rfl rfl fun Qz hz => o_slice_lit (e := 25) x.val.cells (fun w => by kernel_rfl) fun g => G.lit_slice (enc := ElemD.enc) (sz := 12) [x] (by simp [ElemD.enc]) (by simp [maxLen]) <| G.freeze_slice <| g_end (hz _ _ ⟨_, ob_fin, ?_⟩)
  clear hz Qz
  refine ob_l rfl rfl fun Qz hz => o_append (xs := ys) (ys := [x]) rfl rfl rfl rfl rfl (fun _ => .inr trivial) (by simp [maxLen]; omega) (by simp; omega) fun U d => g_end (hz _ _ ⟨_, ob_fin, ?_⟩)
  clear hz Qz
  refine ob_q rfl rfl ⟨_, fun X Q h => o_nil rfl (g_end (h _ _ ⟨rfl, rfl⟩)), ?_⟩
  refine ob_q rfl rfl ⟨_, fun X Q h => o_field rfl (g_end (h _ _ ⟨rfl, rfl⟩)), ?_⟩
  refine ob_s ([]) rfl rfl rfl fun Qz hz => o_store (v := .slice U (ys.length + 1) d) rfl rfl rfl rfl rfl <| g_end (hz _ _ ⟨_, ob_fin, ?_⟩)
  clear hz Qz
  refine ob_nil ?_
  refine G.norm p #[.slice U (ys.length + 1) d, .bool false] rfl ?_
  repeat (first | refine g_endt ?_ | refine g_end ?_ | refine g_then ?_ | refine g_in_normal ?_ | refine g_then_ret ?_ | refine g_in_ret ?_ | refine g_then_exit ?_ | refine g_in_exit rfl ?_ | refine g_in_exit_ne (by decide) ?_ | refine g_seq ?_ | refine g_region ?_ | refine g_block ?_ | refine g_ret ?_ | refine g_return_n ?_ | refine g_exit ?_ | refine g_skip ?_)
  refine o_move ?_
  refine o_nil rfl ?_
  refine o_field rfl ?_
  refine o_load1 (v := .slice U (ys.length + 1) d) rfl rfl ?_
  refine o_len rfl rfl ?_
  refine o_sub (c := ((ys.length : Nat) : Int)) rfl rfl (by omega) (by omega) (by omega) ?_
  refine o_assign ?_
  refine g_endt ?_
  repeat (first | refine g_endt ?_ | refine g_end ?_ | refine g_then ?_ | refine g_in_normal ?_ | refine g_then_ret ?_ | refine g_in_ret ?_ | refine g_then_exit ?_ | refine g_in_exit rfl ?_ | refine g_in_exit_ne (by decide) ?_ | refine g_seq ?_ | refine g_region ?_ | refine g_block ?_ | refine g_ret ?_ | refine g_return_n ?_ | refine g_exit ?_ | refine g_skip ?_)
  have hk1 : k ≤ ys.length := hk.1
  refine g_loop (σ := {s : Nat × ElemD // k ≤ s.1 ∧ s.1 ≤ ys.length})
    (S := fun s => [(0, .pointer (some ⟨p, 0, none⟩)), (3, .pointer (some ⟨q, 0, none⟩)), (5, .int .i64 (k : Int)), (7, .int .i64 (s.1.1 : Int))])
    (H := fun s => [cellsB p #[.slice U (ys.length + 1) d, .bool false] 92, cellsB q x.val.cells 25, osl 25 ElemD.enc 12 U d (ys.take s.1.1 ++ s.1.2 :: ys.drop s.1.1)]) (μ := fun s => s.1.1)
    (s0 := ⟨(ys.length, x), hk1, Nat.le_refl _⟩) (Sat.mem ⟨rfl, rfl, rfl, rfl, trivial⟩) (t := by simp only [List.take_length, List.drop_length]; infer_instance) ?_
  rintro ⟨⟨i, w⟩, h1, h2⟩ ρ'
  dsimp only at h1 h2 ⊢
  have hlen : (ys.take i ++ w :: ys.drop i).length = ys.length + 1 := by simp; omega
  repeat (first | refine g_endt ?_ | refine g_end ?_ | refine g_then ?_ | refine g_in_normal ?_ | refine g_then_ret ?_ | refine g_in_ret ?_ | refine g_then_exit ?_ | refine g_in_exit rfl ?_ | refine g_in_exit_ne (by decide) ?_ | refine g_seq ?_ | refine g_region ?_ | refine g_block ?_ | refine g_ret ?_ | refine g_return_n ?_ | refine g_exit ?_ | refine g_skip ?_)
  refine o_move ?_
  refine o_move ?_
  refine o_gtr rfl rfl ?_
  first | refine g_endt ?_ | refine g_end ?_
  by_cases h : k < i
  · first | refine g_seq (g_cond_t rfl (by simpa using h) ?_) | refine g_cond_t rfl (by simpa using h) ?_
    repeat (first | refine g_endt ?_ | refine g_end ?_ | refine g_then ?_ | refine g_in_normal ?_ | refine g_then_ret ?_ | refine g_in_ret ?_ | refine g_then_exit ?_ | refine g_in_exit rfl ?_ | refine g_in_exit_ne (by decide) ?_ | refine g_seq ?_ | refine g_region ?_ | refine g_block ?_ | refine g_ret ?_ | refine g_return_n ?_ | refine g_exit ?_ | refine g_skip ?_)
    obtain ⟨i, rfl⟩ : ∃ j, i = j + 1 := ⟨i - 1, by omega⟩
    have hi : i < ys.length := by omega
    obtain ⟨y, hy⟩ : ∃ y, ys[i]? = some y := ⟨_, List.getElem?_eq_getElem hi⟩
    have hz : (ys.take (i + 1) ++ w :: ys.drop (i + 1))[i]? = some y := by
      rw [List.getElem?_append_left (by simp; omega), List.getElem?_take, if_pos (by omega), hy]
    refine g_draw [14] [0,1,2,3,4,5,6,7,8,9,10,11,12,13,14] [cellsB p #[.slice U (ys.length + 1) d, .bool false] 92, osl 25 ElemD.enc 12 U d (ys.take (i + 1) ++ w :: ys.drop (i + 1))] mixed rfl ?_
    refine ob_q rfl rfl ⟨_, fun X Q h => o_move (g_end (h _ _ ⟨rfl, rfl⟩)), ?_⟩
    refine ob_q rfl rfl ⟨_, fun X Q h => o_nil rfl (g_end (h _ _ ⟨rfl, rfl⟩)), ?_⟩
    refine ob_q rfl rfl ⟨_, fun X Q h => o_field rfl (g_end (h _ _ ⟨rfl, rfl⟩)), ?_⟩
    refine ob_q rfl rfl ⟨_, fun X Q h => o_load1 (v := .slice U (ys.length + 1) d) rfl rfl (g_end (h _ _ ⟨rfl, rfl⟩)), ?_⟩
    refine ob_q rfl rfl ⟨_, fun X Q h => o_move (g_end (h _ _ ⟨rfl, rfl⟩)), ?_⟩
    refine ob_q rfl rfl ⟨_, fun X Q h => o_move (g_end (h _ _ ⟨rfl, rfl⟩)), ?_⟩
    refine ob_q rfl rfl ⟨_, fun X Q h => o_nil rfl (g_end (h _ _ ⟨rfl, rfl⟩)), ?_⟩
    refine ob_q rfl rfl ⟨_, fun X Q h => o_field rfl (g_end (h _ _ ⟨rfl, rfl⟩)), ?_⟩
    refine ob_q rfl rfl ⟨_, fun X Q h => o_load1 (v := .slice U (ys.length + 1) d) rfl rfl (g_end (h _ _ ⟨rfl, rfl⟩)), ?_⟩
    refine ob_q rfl rfl ⟨_, fun X Q h => o_move (g_end (h _ _ ⟨rfl, rfl⟩)), ?_⟩
    refine ob_q rfl rfl ⟨_, fun X Q h => o_sub (c := ((i : Nat) : Int)) rfl rfl (by omega) (by omega) (by omega) (g_end (h _ _ ⟨rfl, rfl⟩)), ?_⟩
    refine ob_q rfl rfl ⟨_, fun X Q h => o_indexR (i := i) rfl rfl rfl (by omega) hlen rfl (g_end (h _ _ ⟨rfl, rfl⟩)), ?_⟩
    refine ob_q rfl rfl ⟨_, fun X Q h => o_loadE (enc := ElemD.enc) rfl rfl hz (g_end (h _ _ ⟨rfl, rfl⟩)), ?_⟩
    refine ob_q rfl rfl ⟨_, fun X Q h => o_indexR (i := i + 1) rfl rfl rfl (by omega) hlen rfl (g_end (h _ _ ⟨rfl, rfl⟩)), ?_⟩
    refine ob_s ([]) rfl rfl rfl fun Qz hz => o_storeE (e := 25) (c := d) (v := y.val) (z := y) (i := i + 1) (enc := ElemD.enc) (xs := ys.take (i + 1) ++ w :: ys.drop (i + 1)) rfl rfl rfl rfl (by omega) <| g_end (hz _ _ ⟨_, ob_fin, ?_⟩)
    clear hz Qz
    refine ob_nil ?_
    rw [gapES ys i w y hi hy]
    repeat (first | refine g_endt ?_ | refine g_end ?_ | refine g_then ?_ | refine g_in_normal ?_ | refine g_then_ret ?_ | refine g_in_ret ?_ | refine g_then_exit ?_ | refine g_in_exit rfl ?_ | refine g_in_exit_ne (by decide) ?_ | refine g_seq ?_ | refine g_region ?_ | refine g_block ?_ | refine g_ret ?_ | refine g_return_n ?_ | refine g_exit ?_ | refine g_skip ?_)
    refine o_move ?_
    refine o_sub (c := ((i : Nat) : Int)) rfl rfl (by omega) (by omega) (by omega) ?_
    refine o_assign ?_
    refine g_endt ?_
    repeat (first | refine g_endt ?_ | refine g_end ?_ | refine g_then ?_ | refine g_in_normal ?_ | refine g_then_ret ?_ | refine g_in_ret ?_ | refine g_then_exit ?_ | refine g_in_exit rfl ?_ | refine g_in_exit_ne (by decide) ?_ | refine g_seq ?_ | refine g_region ?_ | refine g_block ?_ | refine g_ret ?_ | refine g_return_n ?_ | refine g_exit ?_ | refine g_skip ?_)
    exact g_meets ⟨(i, y), by show k ≤ i; omega, by show i ≤ ys.length; omega⟩ (by show i < i + 1; omega) (Sat.mem ⟨rfl, rfl, rfl, rfl, trivial⟩)
  · first | refine g_seq (g_cond_f rfl (by simpa using h) ?_) | refine g_cond_f rfl (by simpa using h) ?_
    have e : i = k := by omega
    subst e
    repeat (first | refine g_endt ?_ | refine g_end ?_ | refine g_then ?_ | refine g_in_normal ?_ | refine g_then_ret ?_ | refine g_in_ret ?_ | refine g_then_exit ?_ | refine g_in_exit rfl ?_ | refine g_in_exit_ne (by decide) ?_ | refine g_seq ?_ | refine g_region ?_ | refine g_block ?_ | refine g_ret ?_ | refine g_return_n ?_ | refine g_exit ?_ | refine g_skip ?_)
    refine g_draw [7] [0,1,2,3,4,5,6,7] [cellsB p #[.slice U (ys.length + 1) d, .bool false] 92, osl 25 ElemD.enc 12 U d (ys.take i ++ w :: ys.drop i), cellsB q x.val.cells 25] mixed rfl ?_
    refine ob_q rfl rfl ⟨_, fun X Q h => o_move (g_end (h _ _ ⟨rfl, rfl⟩)), ?_⟩
    refine ob_q rfl rfl ⟨_, fun X Q h => o_nil rfl (g_end (h _ _ ⟨rfl, rfl⟩)), ?_⟩
    refine ob_q rfl rfl ⟨_, fun X Q h => o_field rfl (g_end (h _ _ ⟨rfl, rfl⟩)), ?_⟩
    refine ob_q rfl rfl ⟨_, fun X Q h => o_load1 (v := .slice U (ys.length + 1) d) rfl rfl (g_end (h _ _ ⟨rfl, rfl⟩)), ?_⟩
    refine ob_q rfl rfl ⟨_, fun X Q h => o_move (g_end (h _ _ ⟨rfl, rfl⟩)), ?_⟩
    refine ob_q rfl rfl ⟨_, fun X Q h => o_loadN (v := x.val) rfl rfl rfl (g_end (h _ _ ⟨rfl, rfl⟩)), ?_⟩
    refine ob_q rfl rfl ⟨_, fun X Q h => o_indexR (i := i) rfl rfl rfl (by omega) hlen rfl (g_end (h _ _ ⟨rfl, rfl⟩)), ?_⟩
    refine ob_s ([]) rfl rfl rfl fun Qz hz => o_storeE (e := 25) (c := d) (v := x.val) (z := x) (i := i) (enc := ElemD.enc) (xs := ys.take i ++ w :: ys.drop i) rfl rfl rfl rfl (by omega) <| g_end (hz _ _ ⟨_, ob_fin, ?_⟩)
    clear hz Qz
    refine ob_nil ?_
    have hset : (ys.take i ++ w :: ys.drop i).set i x = ys.take i ++ x :: ys.drop i := by
      have h3 : (ys.take i).length = i := by simp; omega
      rw [List.set_append_right _ _ (by omega), h3, Nat.sub_self, List.set_cons_zero]
    rw [hset]
    repeat (first | refine g_endt ?_ | refine g_end ?_ | refine g_then ?_ | refine g_in_normal ?_ | refine g_then_ret ?_ | refine g_in_ret ?_ | refine g_then_exit ?_ | refine g_in_exit rfl ?_ | refine g_in_exit_ne (by decide) ?_ | refine g_seq ?_ | refine g_region ?_ | refine g_block ?_ | refine g_ret ?_ | refine g_return_n ?_ | refine g_exit ?_ | refine g_skip ?_)
    refine o_assign ?_
    first | refine g_endt ?_ | refine g_end ?_
    refine shutFES p (ys.take i ++ x :: ys.drop i) U d (len := ys.length + 1) (by simp; omega) ?_
    repeat (first | refine g_endt ?_ | refine g_end ?_ | refine g_then ?_ | refine g_in_normal ?_ | refine g_then_ret ?_ | refine g_in_ret ?_ | refine g_then_exit ?_ | refine g_in_exit rfl ?_ | refine g_in_exit_ne (by decide) ?_ | refine g_seq ?_ | refine g_region ?_ | refine g_block ?_ | refine g_ret ?_ | refine g_return_n ?_ | refine g_exit ?_ | refine g_skip ?_)
    exact ret1 (K := [SetAES p (ys.take i ++ x :: ys.drop i)]) rfl (resT rfl) ⟨i, false, rfl, rfl, hk⟩
end Go.Proofs.Ytdpbjoldgiikkaa
/- An ordered set's Put, told as a function of lists. -/
namespace Go.Proofs.Ytdpbjoldgiikkaa
open Go Go.Sl

theorem PutCES_spec (p : Nat) (ys : List ElemD) (x : ElemD) (hs : Srt ElemD.cmp ys) (hl : ys.length < 1000000000) : Ctr Try.prog 39 [.pointer (some ⟨p, 0, none⟩), x.val] [SetAES p ys]
    (fun v M => v = .bool (!hasC ElemD.cmp ys x) ∧ M = [SetAES p (insC ElemD.cmp ys x)]) := (PutES_spec p ys x hs hl).mono fun v M ⟨k, there, h1, h2, h3⟩ => by
  rw [h1, h2, hasC_of h3, insC_of ElemD.lin hs h3]
  exact ⟨rfl, rfl⟩
end Go.Proofs.Ytdpbjoldgiikkaa
/- An ordered set's functions, for one type of members: Drop, Get, At, Len. -/
namespace Go.Proofs.Ytdpbjoldgiikkaa
open Go Go.Sl
attribute [local irreducible] Code.wpIn roundPost bodyPostM runL Ret Meets Begin

theorem shiftES (ys : List ElemD) (k i : Nat) (y : ElemD) (hk : k ≤ i) (hi : i + 1 < ys.length) (hy : ys[i + 1]? = some y) : ((ys.eraseIdx k).take i ++ ys.drop i).set i y = (ys.eraseIdx k).take (i + 1) ++ ys.drop (i + 1) := by
  have hle : (ys.eraseIdx k).length = ys.length - 1 := by rw [List.length_eraseIdx]; split <;> omega
  have h1 : ((ys.eraseIdx k).take i).length = i := by simp [hle]; omega
  have h2 : ys.drop i = ys[i] :: ys.drop (i + 1) := List.drop_eq_getElem_cons (by omega)
  have h3 : (ys.eraseIdx k)[i]? = some y := by rw [List.getElem?_eraseIdx, if_neg (by omega), hy]
  rw [List.set_append_right _ _ (by omega), h1, Nat.sub_self, h2, List.set_cons_zero, take_snocPES _ i y h3]
  simp
theorem DropES_spec (p : Nat) (ys : List ElemD) (x : ElemD) (hs : Srt ElemD.cmp ys) (hl : ys.length < 1000000000) : Ctr Try.prog 65 [.pointer (some ⟨p, 0, none⟩), x.val] [SetAES p ys]
    (fun v M => ∃ (k : Nat) (there : Bool), v = .bool there ∧ M = [SetAES p (cond there (ys.eraseIdx k) ys)] ∧ FindR ElemD.cmp ys x k there) := by
  refine spec_of Try.func65 rfl Try.ntmps65 rfl fun w0 F => ?_
  repeat (first | refine g_endt ?_ | refine g_end ?_ | refine g_then ?_ | refine g_in_normal ?_ | refine g_then_ret ?_ | refine g_in_ret ?_ | refine g_then_exit ?_ | refine g_in_exit rfl ?_ | refine g_in_exit_ne (by decide) ?_ | refine g_seq ?_ | refine g_region ?_ | refine g_block ?_ | refine g_ret ?_ | refine g_return_n ?_ | refine g_exit ?_ | refine g_skip ?_)
  refine o_boxc x.val.cells rfl rfl fun q => ?_
  refine o_assign ?_
  first | refine g_endt ?_ | refine g_end ?_
  repeat (first | refine g_endt ?_ | refine g_end ?_ | refine g_then ?_ | refine g_in_normal ?_ | refine g_then_ret ?_ | refine g_in_ret ?_ | refine g_then_exit ?_ | refine g_in_exit rfl ?_ | refine g_in_exit_ne (by decide) ?_ | refine g_seq ?_ | refine g_region ?_ | refine g_block ?_ | refine g_ret ?_ | refine g_return_n ?_ | refine g_exit ?_ | refine g_skip ?_)
  refine o_move ?_
  refine o_peql rfl ?_
  first | refine g_endt ?_ | refine g_end ?_
  first | refine g_seq (g_cond_f rfl (rfl) ?_) | refine g_cond_f rfl (rfl) ?_
  repeat (first | refine g_endt ?_ | refine g_end ?_ | refine g_then ?_ | refine g_in_normal ?_ | refine g_then_ret ?_ | refine g_in_ret ?_ | refine g_then_exit ?_ | refine g_in_exit rfl ?_ | refine g_in_exit_ne (by decide) ?_ | refine g_seq ?_ | refine g_region ?_ | refine g_block ?_ | refine g_ret ?_ | refine g_return_n ?_ | refine g_exit ?_ | refine g_skip ?_)
  refine o_move ?_
  refine o_loadN (v := x.val) rfl rfl rfl ?_
  refine o_call (findES_spec p ys x hs (by omega)) rfl rfl ?_
  rintro _ _ ⟨k, there, rfl, rfl, hk⟩
  refine o_move ?_
  refine o_extract rfl rfl ?_
  refine o_extract rfl rfl ?_
  refine o_assign ?_
  refine o_assign ?_
  first | refine g_endt ?_ | refine g_end ?_
  repeat (first | refine g_endt ?_ | refine g_end ?_ | refine g_then ?_ | refine g_in_normal ?_ | refine g_then_ret ?_ | refine g_in_ret ?_ | refine g_then_exit ?_ | refine g_in_exit rfl ?_ | refine g_in_exit_ne (by decide) ?_ | refine g_seq ?_ | refine g_region ?_ | refine g_block ?_ | refine g_ret ?_ | refine g_return_n ?_ | refine g_exit ?_ | refine g_skip ?_)
  refine o_move ?_
  refine o_not rfl ?_
  refine g_endt ?_
  cases there
  case false =>
    first | refine g_seq (g_cond_t rfl (rfl) ?_) | refine g_cond_t rfl (rfl) ?_
    repeat (first | refine g_endt ?_ | refine g_end ?_ | refine g_then ?_ | refine g_in_normal ?_ | refine g_then_ret ?_ | refine g_in_ret ?_ | refine g_then_exit ?_ | refine g_in_exit rfl ?_ | refine g_in_exit_ne (by decide) ?_ | refine g_seq ?_ | refine g_region ?_ | refine g_block ?_ | refine g_ret ?_ | refine g_return_n ?_ | refine g_exit ?_ | refine g_skip ?_)
    refine o_assign ?_
    first | refine g_endt ?_ | refine g_end ?_
    repeat (first | refine g_endt ?_ | refine g_end ?_ | refine g_then ?_ | refine g_in_normal ?_ | refine g_then_ret ?_ | refine g_in_ret ?_ | refine g_then_exit ?_ | refine g_in_exit rfl ?_ | refine g_in_exit_ne (by decide) ?_ | refine g_seq ?_ | refine g_region ?_ | refine g_block ?_ | refine g_ret ?_ | refine g_return_n ?_ | refine g_exit ?_ | refine g_skip ?_)
    exact ret1 (K := [SetAES p ys]) rfl (resT rfl) ⟨k, false, rfl, rfl, hk⟩
  first | refine g_seq (g_cond_f rfl (rfl) ?_) | refine g_cond_f rfl (rfl) ?_
  have hk1 : k < ys.length := by
    obtain ⟨y, hy, _⟩ := hk.2.1 rfl
    exact (List.getElem?_eq_some_iff.1 hy).1
  repeat (first | refine g_endt ?_ | refine g_end ?_ | refine g_then ?_ | refine g_in_normal ?_ | refine g_then_ret ?_ | refine g_in_ret ?_ | refine g_then_exit ?_ | refine g_in_exit rfl ?_ | refine g_in_exit_ne (by decide) ?_ | refine g_seq ?_ | refine g_region ?_ | refine g_block ?_ | refine g_ret ?_ | refine g_return_n ?_ | refine g_exit ?_ | refine g_skip ?_)
  refine o_move ?_
  refine o_call (ownES_spec p ys (by omega)) rfl rfl ?_
  rintro _ _ ⟨S, c, rfl⟩
  refine g_endt ?_
  repeat (first | refine g_endt ?_ | refine g_end ?_ | refine g_then ?_ | refine g_in_normal ?_ | refine g_then_ret ?_ | refine g_in_ret ?_ | refine g_then_exit ?_ | refine g_in_exit rfl ?_ | refine g_in_exit_ne (by decide) ?_ | refine g_seq ?_ | refine g_region ?_ | refine g_block ?_ | refine g_ret ?_ | refine g_return_n ?_ | refine g_exit ?_ | refine g_skip ?_)
  refine o_move ?_
  refine o_assign ?_
  first | refine g_endt ?_ | refine g_end ?_
  repeat (first | refine g_endt ?_ | refine g_end ?_ | refine g_then ?_ | refine g_in_normal ?_ | refine g_then_ret ?_ | refine g_in_ret ?_ | refine g_then_exit ?_ | refine g_in_exit rfl ?_ | refine g_in_exit_ne (by decide) ?_ | refine g_seq ?_ | refine g_region ?_ | refine g_block ?_ | refine g_ret ?_ | refine g_return_n ?_ | refine g_exit ?_ | refine g_skip ?_)
  have h0 : (ys.eraseIdx k).take k ++ ys.drop k = ys := by
    rw [List.eraseIdx_eq_take_drop_succ, List.take_append_of_le_length (by simp; omega), List.take_take, Nat.min_self, List.take_append_drop]
  refine g_loop (σ := {i : Nat // k ≤ i ∧ i + 1 ≤ ys.length})
    (S := fun i => [(0, .pointer (some ⟨p, 0, none⟩)), (7, .int .i64 (i.1 : Int))])
    (H := fun i => [cellsB p #[.slice S ys.length c, .bool false] 92, osl 25 ElemD.enc 12 S c ((ys.eraseIdx k).take i.1 ++ ys.drop i.1)]) (μ := fun i => ys.length - i.1)
    (s0 := ⟨k, Nat.le_refl _, hk1⟩) (Sat.mem ⟨rfl, rfl, trivial⟩) (t := by simp only [h0]; infer_instance) ?_
  rintro ⟨i, h1, h2⟩ ρ'
  dsimp only at h1 h2 ⊢
  have hle : (ys.eraseIdx k).length = ys.length - 1 := by rw [List.length_eraseIdx, if_pos hk1]
  have hlen : ((ys.eraseIdx k).take i ++ ys.drop i).length = ys.length := by simp [hle]; omega
  repeat (first | refine g_endt ?_ | refine g_end ?_ | refine g_then ?_ | refine g_in_normal ?_ | refine g_then_ret ?_ | refine g_in_ret ?_ | refine g_then_exit ?_ | refine g_in_exit rfl ?_ | refine g_in_exit_ne (by decide) ?_ | refine g_seq ?_ | refine g_region ?_ | refine g_block ?_ | refine g_ret ?_ | refine g_return_n ?_ | refine g_exit ?_ | refine g_skip ?_)
  refine o_move ?_
  refine o_add (c := ((i + 1 : Nat) : Int)) rfl rfl (by omega) (by omega) (by omega) ?_
  refine o_move ?_
  refine o_nil rfl ?_
  refine o_field rfl ?_
  refine o_load1 (v := .slice S ys.length c) rfl rfl ?_
  refine o_len rfl rfl ?_
  refine o_lss rfl rfl ?_
  refine g_endt ?_
  by_cases h : i + 1 < ys.length
  · first | refine g_seq (g_cond_t rfl (by simp; omega) ?_) | refine g_cond_t rfl (by simp; omega) ?_
    repeat (first | refine g_endt ?_ | refine g_end ?_ | refine g_then ?_ | refine g_in_normal ?_ | refine g_then_ret ?_ | refine g_in_ret ?_ | refine g_then_exit ?_ | refine g_in_exit rfl ?_ | refine g_in_exit_ne (by decide) ?_ | refine g_seq ?_ | refine g_region ?_ | refine g_block ?_ | refine g_ret ?_ | refine g_return_n ?_ | refine g_exit ?_ | refine g_skip ?_)
    obtain ⟨y, hy⟩ : ∃ y, ys[i + 1]? = some y := ⟨_, List.getElem?_eq_getElem h⟩
    have hz : ((ys.eraseIdx k).take i ++ ys.drop i)[i + 1]? = some y := by
      have h3 : ((ys.eraseIdx k).take i).length = i := by simp [hle]; omega
      rw [List.getElem?_append_right (by omega), h3, List.getElem?_drop, show i + (i + 1 - i) = i + 1 by omega, hy]
    refine g_draw [14] [0,1,2,3,4,5,6,7,8,9,10,11,12,13,14] [cellsB p #[.slice S ys.length c, .bool false] 92, osl 25 ElemD.enc 12 S c ((ys.eraseIdx k).take i ++ ys.drop i)] mixed rfl ?_
    refine ob_q rfl rfl ⟨_, fun X Q h => o_move (g_end (h _ _ ⟨rfl, rfl⟩)), ?_⟩
    refine ob_q rfl rfl ⟨_, fun X Q h => o_nil rfl (g_end (h _ _ ⟨rfl, rfl⟩)), ?_⟩
    refine ob_q rfl rfl ⟨_, fun X Q h => o_field rfl (g_end (h _ _ ⟨rfl, rfl⟩)), ?_⟩
    refine ob_q rfl rfl ⟨_, fun X Q h => o_load1 (v := .slice S ys.length c) rfl rfl (g_end (h _ _ ⟨rfl, rfl⟩)), ?_⟩
    refine ob_q rfl rfl ⟨_, fun X Q h => o_move (g_end (h _ _ ⟨rfl, rfl⟩)), ?_⟩
    refine ob_q rfl rfl ⟨_, fun X Q h => o_move (g_end (h _ _ ⟨rfl, rfl⟩)), ?_⟩
    refine ob_q rfl rfl ⟨_, fun X Q h => o_nil rfl (g_end (h _ _ ⟨rfl, rfl⟩)), ?_⟩
    refine ob_q rfl rfl ⟨_, fun X Q h => o_field rfl (g_end (h _ _ ⟨rfl, rfl⟩)), ?_⟩
    refine ob_q rfl rfl ⟨_, fun X Q h => o_load1 (v := .slice S ys.length c) rfl rfl (g_end (h _ _ ⟨rfl, rfl⟩)), ?_⟩
    refine ob_q rfl rfl ⟨_, fun X Q h => o_move (g_end (h _ _ ⟨rfl, rfl⟩)), ?_⟩
    refine ob_q rfl rfl ⟨_, fun X Q h => o_add (c := ((i + 1 : Nat) : Int)) rfl rfl (by omega) (by omega) (by omega) (g_end (h _ _ ⟨rfl, rfl⟩)), ?_⟩
    refine ob_q rfl rfl ⟨_, fun X Q h => o_indexR (i := i + 1) rfl rfl rfl (by omega) hlen rfl (g_end (h _ _ ⟨rfl, rfl⟩)), ?_⟩
    refine ob_q rfl rfl ⟨_, fun X Q h => o_loadE (enc := ElemD.enc) rfl rfl hz (g_end (h _ _ ⟨rfl, rfl⟩)), ?_⟩
    refine ob_q rfl rfl ⟨_, fun X Q h => o_indexR (i := i) rfl rfl rfl (by omega) hlen rfl (g_end (h _ _ ⟨rfl, rfl⟩)), ?_⟩
    refine ob_s ([]) rfl rfl rfl fun Qz hz => o_storeE (e := 25) (c := c) (v := y.val) (z := y) (i := i) (enc := ElemD.enc) (xs := (ys.eraseIdx k).take i ++ ys.drop i) rfl rfl rfl rfl (by omega) <| g_end (hz _ _ ⟨_, ob_fin, ?_⟩)
    clear hz Qz
    refine ob_nil ?_
    rw [shiftES ys k i y h1 h hy]
    repeat (first | refine g_endt ?_ | refine g_end ?_ | refine g_then ?_ | refine g_in_normal ?_ | refine g_then_ret ?_ | refine g_in_ret ?_ | refine g_then_exit ?_ | refine g_in_exit rfl ?_ | refine g_in_exit_ne (by decide) ?_ | refine g_seq ?_ | refine g_region ?_ | refine g_block ?_ | refine g_ret ?_ | refine g_return_n ?_ | refine g_exit ?_ | refine g_skip ?_)
    refine o_move ?_
    refine o_add (c := ((i + 1 : Nat) : Int)) rfl rfl (by omega) (by omega) (by omega) ?_
    refine o_assign ?_
    refine g_endt ?_
    repeat (first | refine g_endt ?_ | refine g_end ?_ | refine g_then ?_ | refine g_in_normal ?_ | refine g_then_ret ?_ | refine g_in_ret ?_ | refine g_then_exit ?_ | refine g_in_exit rfl ?_ | refine g_in_exit_ne (by decide) ?_ | refine g_seq ?_ | refine g_region ?_ | refine g_block ?_ | refine g_ret ?_ | refine g_return_n ?_ | refine g_exit ?_ | refine g_skip ?_)
    exact g_meets ⟨i + 1, by omega, by omega⟩ (by show ys.length - (i + 1) < ys.length - i; omega) (Sat.mem ⟨rfl, rfl, trivial⟩)
  · first | refine g_seq (g_cond_f rfl (by simp; omega) ?_) | refine g_cond_f rfl (by simp; omega) ?_
    repeat (first | refine g_endt ?_ | refine g_end ?_ | refine g_then ?_ | refine g_in_normal ?_ | refine g_then_ret ?_ | refine g_in_ret ?_ | refine g_then_exit ?_ | refine g_in_exit rfl ?_ | refine g_in_exit_ne (by decide) ?_ | refine g_seq ?_ | refine g_region ?_ | refine g_block ?_ | refine g_ret ?_ | refine g_return_n ?_ | refine g_exit ?_ | refine g_skip ?_)
    refine g_draw [14] [0,1,2,3,4,5,6,7,8,9,10,11,12,13,14] [cellsB p #[.slice S ys.length c, .bool false] 92, osl 25 ElemD.enc 12 S c ((ys.eraseIdx k).take i ++ ys.drop i)] mixed rfl ?_
    refine ob_q rfl rfl ⟨_, fun X Q h => o_move (g_end (h _ _ ⟨rfl, rfl⟩)), ?_⟩
    refine ob_q rfl rfl ⟨_, fun X Q h => o_move (g_end (h _ _ ⟨rfl, rfl⟩)), ?_⟩
    refine ob_q rfl rfl ⟨_, fun X Q h => o_nil rfl (g_end (h _ _ ⟨rfl, rfl⟩)), ?_⟩
    refine ob_q rfl rfl ⟨_, fun X Q h => o_field rfl (g_end (h _ _ ⟨rfl, rfl⟩)), ?_⟩
    refine ob_q rfl rfl ⟨_, fun X Q h => o_load1 (v := .slice S ys.length c) rfl rfl (g_end (h _ _ ⟨rfl, rfl⟩)), ?_⟩
    refine ob_q rfl rfl ⟨_, fun X Q h => o_move (g_end (h _ _ ⟨rfl, rfl⟩)), ?_⟩
    refine ob_q rfl rfl ⟨_, fun X Q h => o_nil rfl (g_end (h _ _ ⟨rfl, rfl⟩)), ?_⟩
    refine ob_q rfl rfl ⟨_, fun X Q h => o_field rfl (g_end (h _ _ ⟨rfl, rfl⟩)), ?_⟩
    refine ob_q rfl rfl ⟨_, fun X Q h => o_load1 (v := .slice S ys.length c) rfl rfl (g_end (h _ _ ⟨rfl, rfl⟩)), ?_⟩
    refine ob_q rfl rfl ⟨_, fun X Q h => o_len rfl rfl (g_end (h _ _ ⟨rfl, rfl⟩)), ?_⟩
    refine ob_q rfl rfl ⟨_, fun X Q h => o_sub (c := ((ys.length - 1 : Nat) : Int)) rfl rfl (by omega) (by omega) (by omega) (g_end (h _ _ ⟨rfl, rfl⟩)), ?_⟩
    refine ob_q rfl rfl ⟨_, fun X Q h => o_uptoR (e := 25) (enc := ElemD.enc) (sz := 12) (c := c) (k := ys.length - 1) (xs := (ys.eraseIdx k).take i ++ ys.drop i) rfl rfl rfl hlen (by omega) (g_end (h _ _ ⟨rfl, rfl⟩)), ?_⟩
    refine ob_q rfl rfl ⟨_, fun X Q h => o_nil rfl (g_end (h _ _ ⟨rfl, rfl⟩)), ?_⟩
    refine ob_q rfl rfl ⟨_, fun X Q h => o_field rfl (g_end (h _ _ ⟨rfl, rfl⟩)), ?_⟩
    refine ob_s ([]) rfl rfl rfl fun Qz hz => o_store (v := .slice S (ys.length - 1) c) rfl rfl rfl rfl rfl <| g_end (hz _ _ ⟨_, ob_fin, ?_⟩)
    clear hz Qz
    refine ob_nil ?_
    refine G.norm p #[.slice S (ys.length - 1) c, .bool false] rfl ?_
    refine G.shorten (e := 25) (enc := ElemD.enc) (sz := 12) (S := S) (c := c) (xs := (ys.eraseIdx k).take i ++ ys.drop i) (ys.length - 1) (by omega) ?_
    have he : ((ys.eraseIdx k).take i ++ ys.drop i).take (ys.length - 1) = ys.eraseIdx k := by
      have h3 : ((ys.eraseIdx k).take i).length = ys.length - 1 := by simp [hle]; omega
      rw [List.take_append_of_le_length (by omega), List.take_of_length_le (by omega), List.take_of_length_le (by omega)]
    rw [he]
    repeat (first | refine g_endt ?_ | refine g_end ?_ | refine g_then ?_ | refine g_in_normal ?_ | refine g_then_ret ?_ | refine g_in_ret ?_ | refine g_then_exit ?_ | refine g_in_exit rfl ?_ | refine g_in_exit_ne (by decide) ?_ | refine g_seq ?_ | refine g_region ?_ | refine g_block ?_ | refine g_ret ?_ | refine g_return_n ?_ | refine g_exit ?_ | refine g_skip ?_)
    refine o_assign ?_
    first | refine g_endt ?_ | refine g_end ?_
    refine shutFES p (ys.eraseIdx k) S c (len := ys.length - 1) hle ?_
    repeat (first | refine g_endt ?_ | refine g_end ?_ | refine g_then ?_ | refine g_in_normal ?_ | refine g_then_ret ?_ | refine g_in_ret ?_ | refine g_then_exit ?_ | refine g_in_exit rfl ?_ | refine g_in_exit_ne (by decide) ?_ | refine g_seq ?_ | refine g_region ?_ | refine g_block ?_ | refine g_ret ?_ | refine g_return_n ?_ | refine g_exit ?_ | refine g_skip ?_)
    exact ret1 (K := [SetAES p (ys.eraseIdx k)]) rfl (resT rfl) ⟨k, true, rfl, rfl, hk⟩
end Go.Proofs.Ytdpbjoldgiikkaa
/- An ordered set's Drop, told as a function of lists. -/
namespace Go.Proofs.Ytdpbjoldgiikkaa
open Go Go.Sl

theorem DropCES_spec (p : Nat) (ys : List ElemD) (x : ElemD) (hs : Srt ElemD.cmp ys) (hl : ys.length < 1000000000) : Ctr Try.prog 65 [.pointer (some ⟨p, 0, none⟩), x.val] [SetAES p ys]
    (fun v M => v = .bool (hasC ElemD.cmp ys x) ∧ M = [SetAES p (delC ElemD.cmp ys x)]) := (DropES_spec p ys x hs hl).mono fun v M ⟨k, there, h1, h2, h3⟩ => by
  rw [h1, h2, hasC_of h3, delC_of ElemD.lin hs h3]
  exact ⟨rfl, rfl⟩
end Go.Proofs.Ytdpbjoldgiikkaa
/- An ordered set's functions, for one type of members: made. -/
namespace Go.Proofs.Ytdpbjoldgiikkaa
open Go Go.Sl
attribute [local irreducible] Code.wpIn roundPost bodyPostM runL Ret Meets Begin

theorem NilES_set (p : Nat) {w0 : World} {A : SProp} {L M : List SProp} {Φ : World → Prop} [tk : Take1 L (cellsB p #[.slice none 0 0, .bool false] 92) M] (h : G w0 A (SetAES p [] :: M) Φ) : G w0 A L Φ :=
  G.perm tk.perm (G.nil_slice (α := ElemD) 25 ElemD.enc 12 (shutFES p [] none 0 rfl (M := M) (tk := ⟨List.Perm.swap _ _ _⟩) h))
theorem NewES_spec : Ctr Try.prog 38 [.slice none 0 0] [] (fun v M => ∃ p, v = .pointer (some ⟨p, 0, none⟩) ∧ M = [SetAES p []]) := by
  refine spec_of Try.func38 rfl Try.ntmps38 rfl fun w0 F => ?_
  repeat (first | refine g_endt ?_ | refine g_end ?_ | refine g_then ?_ | refine g_in_normal ?_ | refine g_then_ret ?_ | refine g_in_ret ?_ | refine g_then_exit ?_ | refine g_in_exit rfl ?_ | refine g_in_exit_ne (by decide) ?_ | refine g_seq ?_ | refine g_region ?_ | refine g_block ?_ | refine g_ret ?_ | refine g_return_n ?_ | refine g_exit ?_ | refine g_skip ?_)
  refine o_assign ?_
  first | refine g_endt ?_ | refine g_end ?_
  repeat (first | refine g_endt ?_ | refine g_end ?_ | refine g_then ?_ | refine g_in_normal ?_ | refine g_then_ret ?_ | refine g_in_ret ?_ | refine g_then_exit ?_ | refine g_in_exit rfl ?_ | refine g_in_exit_ne (by decide) ?_ | refine g_seq ?_ | refine g_region ?_ | refine g_block ?_ | refine g_ret ?_ | refine g_return_n ?_ | refine g_exit ?_ | refine g_skip ?_)
  refine o_build (.agg #[.slice none 0 0, .bool false]) (fun w => by kernel_rfl) ?_
  refine o_boxc #[.slice none 0 0, .bool false] rfl rfl fun p => ?_
  refine NilES_set p ?_
  refine o_assign ?_
  refine g_endt ?_
  repeat (first | refine g_endt ?_ | refine g_end ?_ | refine g_then ?_ | refine g_in_normal ?_ | refine g_then_ret ?_ | refine g_in_ret ?_ | refine g_then_exit ?_ | refine g_in_exit rfl ?_ | refine g_in_exit_ne (by decide) ?_ | refine g_seq ?_ | refine g_region ?_ | refine g_block ?_ | refine g_ret ?_ | refine g_return_n ?_ | refine g_exit ?_ | refine g_skip ?_)
  refine o_move ?_
  refine o_len rfl rfl ?_
  refine o_move ?_
  first | refine g_endt ?_ | refine g_end ?_
  repeat (first | refine g_endt ?_ | refine g_end ?_ | refine g_then ?_ | refine g_in_normal ?_ | refine g_then_ret ?_ | refine g_in_ret ?_ | refine g_then_exit ?_ | refine g_in_exit rfl ?_ | refine g_in_exit_ne (by decide) ?_ | refine g_seq ?_ | refine g_region ?_ | refine g_block ?_ | refine g_ret ?_ | refine g_return_n ?_ | refine g_exit ?_ | refine g_skip ?_)
  refine g_loop (σ := Unit) (S := fun _ => [(3, .pointer (some ⟨p, 0, none⟩)), (9, .int .i64 0), (10, .int .i64 0)]) (H := fun _ => [SetAES p []]) (μ := fun _ => 0) (s0 := ()) (Sat.mem ⟨rfl, rfl, rfl, trivial⟩) ?_
  rintro _ ρ'
  repeat (first | refine g_endt ?_ | refine g_end ?_ | refine g_then ?_ | refine g_in_normal ?_ | refine g_then_ret ?_ | refine g_in_ret ?_ | refine g_then_exit ?_ | refine g_in_exit rfl ?_ | refine g_in_exit_ne (by decide) ?_ | refine g_seq ?_ | refine g_region ?_ | refine g_block ?_ | refine g_ret ?_ | refine g_return_n ?_ | refine g_exit ?_ | refine g_skip ?_)
  refine o_lss rfl rfl ?_
  first | refine g_endt ?_ | refine g_end ?_
  first | refine g_seq (g_cond_f rfl (rfl) ?_) | refine g_cond_f rfl (rfl) ?_
  repeat (first | refine g_endt ?_ | refine g_end ?_ | refine g_then ?_ | refine g_in_normal ?_ | refine g_then_ret ?_ | refine g_in_ret ?_ | refine g_then_exit ?_ | refine g_in_exit rfl ?_ | refine g_in_exit_ne (by decide) ?_ | refine g_seq ?_ | refine g_region ?_ | refine g_block ?_ | refine g_ret ?_ | refine g_return_n ?_ | refine g_exit ?_ | refine g_skip ?_)
  refine o_move ?_
  refine o_assign ?_
  first | refine g_endt ?_ | refine g_end ?_
  repeat (first | refine g_endt ?_ | refine g_end ?_ | refine g_then ?_ | refine g_in_normal ?_ | refine g_then_ret ?_ | refine g_in_ret ?_ | refine g_then_exit ?_ | refine g_in_exit rfl ?_ | refine g_in_exit_ne (by decide) ?_ | refine g_seq ?_ | refine g_region ?_ | refine g_block ?_ | refine g_ret ?_ | refine g_return_n ?_ | refine g_exit ?_ | refine g_skip ?_)
  exact ret1 rfl (resT rfl) ⟨p, rfl, rfl⟩
end Go.Proofs.Ytdpbjoldgiikkaa
