/- Symbols, elements, preferences as data; what '==' on them comes to. -/
import Derived.Test.YtlognaddmbolgaaTy
import Derived.Laws.StructEq
namespace Go.Proofs.Ytlognaddmbolgaa
open Go Go.Sl
attribute [local irreducible] Code.wpIn roundPost bodyPostM runL Ret Meets Begin

/-! ### '==' on structs -/
def EqF (P : Program) (d : Nat) (w : World) (xs ys : Array Value) : List (TypeId × Nat) → Bool → Prop
  | [], r => r = true
  | (t, o) :: l, r => ∃ u v r1 r2, (part t xs o).run P w = .ok u w ∧ (part t ys o).run P w = .ok v w ∧ (Op.equalIn d t u v).run P w = .ok r1 w ∧ EqF P d w xs ys l r2 ∧ r = (r1 && r2)
theorem eqFields_of {P : Program} {d : Nat} {w : World} {xs ys : Array Value} : ∀ {fs : List Field} {l : List (TypeId × Nat)} {r : Bool}, fs.map (fun f => (f.type, f.offset)) = l → fs.all (fun f => f.name != "_") = true →
    EqF P d w xs ys l r → (Op.eqFields d xs ys fs).run P w = .ok r w
  | [], l, r, hm, _, h => by
    subst hm
    simp only [List.map_nil, EqF] at h
    subst h
    rfl
  | f :: fs, l, r, hm, hn, h => by
    subst hm
    simp only [List.map_cons, EqF] at h
    obtain ⟨u, v, r1, r2, h1, h2, h3, h4, rfl⟩ := h
    simp only [List.all_cons, Bool.and_eq_true] at hn
    have hne : f.name ≠ "_" := by simpa using hn.1
    have ih := eqFields_of rfl hn.2 h4
    simp only [Op.eqFields, if_pos hne, Sem.run_bind, h1, h2, h3, Result.andThen_ok]
    cases r1
    · simp
    · simpa using ih
theorem equalIn_of {P : Program} {d : Nat} {w : World} {t : TypeId} {xs ys : Array Value} {l : List (TypeId × Nat)} {r : Bool} (ht : P.underlying t = some (.struct (P.fieldsOf t))) (hp : P.stoodInHeld t = false)
    (hm : (P.fieldsOf t).toList.map (fun f => (f.type, f.offset)) = l) (hn : (P.fieldsOf t).toList.all (fun f => f.name != "_") = true) (h : EqF P d w xs ys l r) : (Op.equalIn (d + 1) t (.agg xs) (.agg ys)).run P w = .ok r w := by
  rw [run_equalIn_agg w d t xs ys ht hp]
  exact eqFields_of hm hn h
theorem eqTy_of {P : Program} {t : TypeId} {xs ys : Array Value} {r : Bool} (hg : P.eqGuardType P.depth t = false) (h : ∀ w, (Op.equalIn 10000 t (.agg xs) (.agg ys)).run P w = .ok r w) : EqTy P t (.agg xs) (.agg ys) r := by
  refine ⟨fun w => ?_, fun w => ?_, fun op x y w => run_eqGuard_agg w op t x y xs ys hg⟩
  · rw [run_eql_struct, h w]; rfl
  · rw [run_neq_struct, h w]; rfl

structure SymD where
  kind : Int
  text : ByteArray
  n : Int
def SymD.cells (s : SymD) : List Value := [.int .i64 s.kind, .string s.text, .int .i64 s.n]
def SymD.val (s : SymD) : Value := .agg #[.int .i64 s.kind, .string s.text, .int .i64 s.n]
def SymD.beq (a b : SymD) : Bool := a.kind == b.kind && (a.text.toList == b.text.toList && (a.n == b.n && true))
theorem eqIn_sym (d : Nat) (a b : SymD) (w : World) : (Op.equalIn (d + 2) 27 a.val b.val).run Try.prog w = .ok (a.beq b) w :=
  equalIn_of (l := [(3, 0), (9, 1), (3, 2)]) (by kernel_rfl) (by kernel_rfl) (by kernel_rfl) (by kernel_rfl)
    ⟨.int .i64 a.kind, .int .i64 b.kind, _, _, by kernel_rfl, by kernel_rfl, run_equalIn_int w d _ _ .i64 _ _ (by kernel_rfl),
      ⟨.string a.text, .string b.text, _, _, by kernel_rfl, by kernel_rfl, run_equalIn_string w d _ _ _ (by kernel_rfl),
        ⟨.int .i64 a.n, .int .i64 b.n, _, _, by kernel_rfl, by kernel_rfl, run_equalIn_int w d _ _ .i64 _ _ (by kernel_rfl), rfl, rfl⟩, rfl⟩, rfl⟩
theorem eq_sym (a b : SymD) : EqTy Try.prog 27 a.val b.val (a.beq b) := eqTy_of (by kernel_rfl) (fun w => eqIn_sym 9998 a b w)

structure ElemD where
  id : SymD
  attr : SymD
  value : SymD
  acc : Bool
  goal : Bool
  tag : Int
def ElemD.val (e : ElemD) : Value := .agg #[.int .i64 e.id.kind, .string e.id.text, .int .i64 e.id.n, .int .i64 e.attr.kind, .string e.attr.text, .int .i64 e.attr.n, .int .i64 e.value.kind, .string e.value.text, .int .i64 e.value.n, .bool e.acc, .bool e.goal, .int .i64 e.tag]
def ElemD.beq (a b : ElemD) : Bool := a.id.beq b.id && (a.attr.beq b.attr && (a.value.beq b.value && (a.acc == b.acc && (a.goal == b.goal && (a.tag == b.tag && true)))))
theorem eq_elem (a b : ElemD) : EqTy Try.prog 54 a.val b.val (a.beq b) := eqTy_of (by kernel_rfl) fun w =>
  equalIn_of (l := [(27, 0), (27, 3), (27, 6), (4, 9), (4, 10), (3, 11)]) (by kernel_rfl) (by kernel_rfl) (by kernel_rfl) (by kernel_rfl)
    ⟨a.id.val, b.id.val, _, _, by kernel_rfl, by kernel_rfl, eqIn_sym 9997 _ _ w,
      ⟨a.attr.val, b.attr.val, _, _, by kernel_rfl, by kernel_rfl, eqIn_sym 9997 _ _ w,
        ⟨a.value.val, b.value.val, _, _, by kernel_rfl, by kernel_rfl, eqIn_sym 9997 _ _ w,
          ⟨.bool a.acc, .bool b.acc, _, _, by kernel_rfl, by kernel_rfl, run_equalIn_bool' w 9998 _ _ _ (by kernel_rfl),
            ⟨.bool a.goal, .bool b.goal, _, _, by kernel_rfl, by kernel_rfl, run_equalIn_bool' w 9998 _ _ _ (by kernel_rfl),
              ⟨.int .i64 a.tag, .int .i64 b.tag, _, _, by kernel_rfl, by kernel_rfl, run_equalIn_int w 9998 _ _ .i64 _ _ (by kernel_rfl), rfl, rfl⟩, rfl⟩, rfl⟩, rfl⟩, rfl⟩, rfl⟩
theorem eq_bool (a b : Bool) : EqTy Try.prog 4 (.bool a) (.bool b) (a == b) := by
  have h : ∀ w, (Op.equal 4 (.bool a) (.bool b)).run Try.prog w = .ok (a == b) w := fun w => run_equal_bool w _ a b (by kernel_rfl)
  refine ⟨fun w => ?_, fun w => ?_, fun op x y w => ?_⟩
  · simp only [binOp]
    simp [h]
  · simp only [binOp]
    simp [h]
  · cases op <;> rfl
theorem toList_inj (a b : ByteArray) : a.toList = b.toList ↔ a = b := by
  rw [ByteArray.toList_eq, ByteArray.toList_eq]
  obtain ⟨⟨x⟩⟩ := a
  obtain ⟨⟨y⟩⟩ := b
  simp
theorem SymD.beq_iff (a b : SymD) : a.beq b = true ↔ a = b := by
  obtain ⟨k, t, n⟩ := a
  obtain ⟨k', t', n'⟩ := b
  simp only [SymD.beq, Bool.and_eq_true, and_true, SymD.mk.injEq, beq_iff_eq, toList_inj]
theorem ElemD.beq_iff (a b : ElemD) : a.beq b = true ↔ a = b := by
  obtain ⟨i, at_, v, ac, g, t⟩ := a
  obtain ⟨i', at', v', ac', g', t'⟩ := b
  simp only [ElemD.beq, Bool.and_eq_true, SymD.beq_iff, and_true, ElemD.mk.injEq, beq_iff_eq]
end Go.Proofs.Ytlognaddmbolgaa
