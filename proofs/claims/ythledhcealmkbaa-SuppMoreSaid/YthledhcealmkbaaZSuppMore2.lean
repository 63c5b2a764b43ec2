/- For every input of the types that it takes, 'SuppMore' answers true and leaves what was there as it was. -/
import Derived.Test.YthledhcealmkbaaZSuppMore1
import Derived.Laws.MakeOwn
import Derived.Laws.Strings
import Derived.Test.YthledhcealmkbaaRows

/- Lists told as sequences; the greatest of a sequence. -/
namespace Go.Proofs.Ythledhcealmkbaa
open Go Go.Sl
attribute [local irreducible] Code.wpIn roundPost bodyPostM runL Ret Meets Begin

def most (l : List Int) : Int := l.foldl max 1
/-- A list of numbers, told. -/
theorem each1_iter (b : Nat) (A : Option Addr) (len cap : Nat) (ys : List Int) (hl : ys.length = len) (hm : len ≤ 9223372036854775807) (J0 : List SProp) [HasP J0 (pblk b (.cells #[.slice A len cap] 22 (0, 0)))] [HasP J0 (psl encI 1 A ys)] :
    Iter Try.prog 31 [.pointer (some ⟨b, 0, none⟩)] encI ys J0 := by
  intro l J Jx hJ hy
  refine spec_of Try.func31 rfl Try.ntmps31 rfl fun w0 F => ?_
  refine G.dup (pblk b (.cells #[.slice A len cap] 22 (0, 0))) ?_
  refine G.dup (psl encI 1 A ys) ?_
  subst hJ
  repeat (first | refine g_endt ?_ | refine g_end ?_ | refine g_then ?_ | refine g_in_normal ?_ | refine g_then_ret ?_ | refine g_in_ret ?_ | refine g_then_exit ?_ | refine g_in_exit rfl ?_ | refine g_in_exit_ne (by decide) ?_ | refine g_seq ?_ | refine g_region ?_ | refine g_block ?_ | refine g_ret ?_ | refine g_return_n ?_ | refine g_exit ?_ | refine g_skip ?_)
  refine o_load1 rfl rfl ?_
  refine o_len rfl rfl ?_
  refine o_move ?_
  first | refine g_endt ?_ | refine g_end ?_
  repeat (first | refine g_endt ?_ | refine g_end ?_ | refine g_then ?_ | refine g_in_normal ?_ | refine g_then_ret ?_ | refine g_in_ret ?_ | refine g_then_exit ?_ | refine g_in_exit rfl ?_ | refine g_in_exit_ne (by decide) ?_ | refine g_seq ?_ | refine g_region ?_ | refine g_block ?_ | refine g_ret ?_ | refine g_return_n ?_ | refine g_exit ?_ | refine g_skip ?_)
  refine g_loop (σ := {i : Nat // i ≤ ys.length}) (S := fun i => [(0, .func (.yield l) #[] #[]), (5, .slice A len cap), (6, .int .i64 (len : Int)), (7, .int .i64 ((i.1 : Nat) : Int))])
    (H := fun i => psl encI 1 A ys :: J (ys.take i.1)) (μ := fun i => ys.length - i.1) (s0 := ⟨0, Nat.zero_le _⟩) (Sat.mem ⟨rfl, rfl, rfl, rfl, trivial⟩) (t := by simp only [List.take_zero]; infer_instance) ?_
  rintro ⟨i, hi⟩ ρ'
  dsimp only
  repeat (first | refine g_endt ?_ | refine g_end ?_ | refine g_then ?_ | refine g_in_normal ?_ | refine g_then_ret ?_ | refine g_in_ret ?_ | refine g_then_exit ?_ | refine g_in_exit rfl ?_ | refine g_in_exit_ne (by decide) ?_ | refine g_seq ?_ | refine g_region ?_ | refine g_block ?_ | refine g_ret ?_ | refine g_return_n ?_ | refine g_exit ?_ | refine g_skip ?_)
  refine o_lss rfl rfl ?_
  first | refine g_endt ?_ | refine g_end ?_
  by_cases h : i < len
  · refine g_seq (g_cond_t rfl (by simpa using h) ?_)
    have hi' : i < ys.length := by omega
    have hz : ys[i]? = some ys[i] := List.getElem?_eq_getElem hi'
    have ht := take_snoc ys i _ hz
    repeat (first | refine g_endt ?_ | refine g_end ?_ | refine g_then ?_ | refine g_in_normal ?_ | refine g_then_ret ?_ | refine g_in_ret ?_ | refine g_then_exit ?_ | refine g_in_exit rfl ?_ | refine g_in_exit_ne (by decide) ?_ | refine g_seq ?_ | refine g_region ?_ | refine g_block ?_ | refine g_ret ?_ | refine g_return_n ?_ | refine g_exit ?_ | refine g_skip ?_)
    refine o_indexR rfl rfl rfl hi' hl rfl ?_
    refine o_loadE0 (enc := encI) (v := .int .i64 ys[i]) rfl hz rfl ?_
    refine o_assign ?_
    refine g_endt ?_
    repeat (first | refine g_endt ?_ | refine g_end ?_ | refine g_then ?_ | refine g_in_normal ?_ | refine g_then_ret ?_ | refine g_in_ret ?_ | refine g_then_exit ?_ | refine g_in_exit rfl ?_ | refine g_in_exit_ne (by decide) ?_ | refine g_seq ?_ | refine g_region ?_ | refine g_block ?_ | refine g_ret ?_ | refine g_return_n ?_ | refine g_exit ?_ | refine g_skip ?_)
    refine o_move ?_
    refine o_move ?_
    have hp : (ys.take i ++ [ys[i]]) <+: ys := ⟨ys.drop (i + 1), by rw [← ht, List.take_append_drop]⟩
    refine o_yield (hy (ys.take i) ys[i] hp) rfl rfl ?_ ?_
    · refine o_not rfl ?_
      refine g_endt ?_
      refine g_cond_f rfl rfl ?_
      repeat (first | refine g_endt ?_ | refine g_end ?_ | refine g_then ?_ | refine g_in_normal ?_ | refine g_then_ret ?_ | refine g_in_ret ?_ | refine g_then_exit ?_ | refine g_in_exit rfl ?_ | refine g_in_exit_ne (by decide) ?_ | refine g_seq ?_ | refine g_region ?_ | refine g_block ?_ | refine g_ret ?_ | refine g_return_n ?_ | refine g_exit ?_ | refine g_skip ?_)
      refine o_add rfl rfl rfl (by omega) (by omega) ?_
      refine o_move ?_
      first | refine g_endt ?_ | refine g_end ?_
      repeat (first | refine g_endt ?_ | refine g_end ?_ | refine g_then ?_ | refine g_in_normal ?_ | refine g_then_ret ?_ | refine g_in_ret ?_ | refine g_then_exit ?_ | refine g_in_exit rfl ?_ | refine g_in_exit_ne (by decide) ?_ | refine g_seq ?_ | refine g_region ?_ | refine g_block ?_ | refine g_ret ?_ | refine g_return_n ?_ | refine g_exit ?_ | refine g_skip ?_)
      exact g_meets ⟨i + 1, hi'⟩ (by show ys.length - (i + 1) < ys.length - i; omega) (Sat.mem ⟨rfl, rfl, rfl, rfl, trivial⟩) (t := by rw [ht]; infer_instance)
    · refine o_not rfl ?_
      refine g_endt ?_
      refine g_cond_t rfl rfl ?_
      repeat (first | refine g_endt ?_ | refine g_end ?_ | refine g_then ?_ | refine g_in_normal ?_ | refine g_then_ret ?_ | refine g_in_ret ?_ | refine g_then_exit ?_ | refine g_in_exit rfl ?_ | refine g_in_exit_ne (by decide) ?_ | refine g_seq ?_ | refine g_region ?_ | refine g_block ?_ | refine g_ret ?_ | refine g_return_n ?_ | refine g_exit ?_ | refine g_skip ?_)
      exact ret0 rfl (.inr ⟨_, hp, rfl⟩)
  · refine g_seq (g_cond_f rfl (by simpa using h) ?_)
    repeat (first | refine g_endt ?_ | refine g_end ?_ | refine g_then ?_ | refine g_in_normal ?_ | refine g_then_ret ?_ | refine g_in_ret ?_ | refine g_then_exit ?_ | refine g_in_exit rfl ?_ | refine g_in_exit_ne (by decide) ?_ | refine g_seq ?_ | refine g_region ?_ | refine g_block ?_ | refine g_ret ?_ | refine g_return_n ?_ | refine g_exit ?_ | refine g_skip ?_)
    have he : ys.take i = ys := List.take_of_length_le (by omega)
    exact ret0 (K := J (ys.take i)) rfl (.inl (by rw [he]))
theorem each_spec (A : Option Addr) (len cap : Nat) : Ctr Try.prog 28 [.slice A len cap] []
    (fun v M => ∃ b, v = .func (.func 31) #[] #[.pointer (some ⟨b, 0, none⟩)] ∧ M = [pblk b (.cells #[.slice A len cap] 22 (0, 0))]) := by
  refine spec_of Try.func28 rfl Try.ntmps28 rfl fun w0 F => ?_
  repeat (first | refine g_endt ?_ | refine g_end ?_ | refine g_then ?_ | refine g_in_normal ?_ | refine g_then_ret ?_ | refine g_in_ret ?_ | refine g_then_exit ?_ | refine g_in_exit rfl ?_ | refine g_in_exit_ne (by decide) ?_ | refine g_seq ?_ | refine g_region ?_ | refine g_block ?_ | refine g_ret ?_ | refine g_return_n ?_ | refine g_exit ?_ | refine g_skip ?_)
  refine o_boxc #[.slice A len cap] rfl rfl fun b => ?_
  refine G.freeze ?_
  refine o_assign ?_
  first | refine g_endt ?_ | refine g_end ?_
  repeat (first | refine g_endt ?_ | refine g_end ?_ | refine g_then ?_ | refine g_in_normal ?_ | refine g_then_ret ?_ | refine g_in_ret ?_ | refine g_then_exit ?_ | refine g_in_exit rfl ?_ | refine g_in_exit_ne (by decide) ?_ | refine g_seq ?_ | refine g_region ?_ | refine g_block ?_ | refine g_ret ?_ | refine g_return_n ?_ | refine g_exit ?_ | refine g_skip ?_)
  refine o_func ?_
  refine o_assign ?_
  first | refine g_endt ?_ | refine g_end ?_
  repeat (first | refine g_endt ?_ | refine g_end ?_ | refine g_then ?_ | refine g_in_normal ?_ | refine g_then_ret ?_ | refine g_in_ret ?_ | refine g_then_exit ?_ | refine g_in_exit rfl ?_ | refine g_in_exit_ne (by decide) ?_ | refine g_seq ?_ | refine g_region ?_ | refine g_block ?_ | refine g_ret ?_ | refine g_return_n ?_ | refine g_exit ?_ | refine g_skip ?_)
  exact ret1 rfl (resT rfl) ⟨b, rfl, rfl⟩
theorem Level_spec (gf : FuncId) (lb : List Value) (ys : List Int) (Ks : List SProp) [En Try.prog gf] (hit : ∀ K, Iter Try.prog gf lb encI ys (K ++ Ks)) : Ctr Try.prog 9 [.func (.func gf) #[] lb.toArray] Ks
    (fun v M => v = .int .i64 (most ys) ∧ M = []) := by
  refine spec_of Try.func9 rfl Try.ntmps9 rfl fun w0 F => ?_
  repeat (first | refine g_endt ?_ | refine g_end ?_ | refine g_then ?_ | refine g_in_normal ?_ | refine g_then_ret ?_ | refine g_in_ret ?_ | refine g_then_exit ?_ | refine g_in_exit rfl ?_ | refine g_in_exit_ne (by decide) ?_ | refine g_seq ?_ | refine g_region ?_ | refine g_block ?_ | refine g_ret ?_ | refine g_return_n ?_ | refine g_exit ?_ | refine g_skip ?_)
  refine o_assign ?_
  first | refine g_endt ?_ | refine g_end ?_
  repeat (first | refine g_endt ?_ | refine g_end ?_ | refine g_then ?_ | refine g_in_normal ?_ | refine g_then_ret ?_ | refine g_in_ret ?_ | refine g_then_exit ?_ | refine g_in_exit rfl ?_ | refine g_in_exit_ne (by decide) ?_ | refine g_seq ?_ | refine g_region ?_ | refine g_block ?_ | refine g_ret ?_ | refine g_return_n ?_ | refine g_exit ?_ | refine g_skip ?_)
  refine o_alloc fun b => ?_
  refine o_store rfl rfl rfl rfl rfl ?_
  first | refine g_endt ?_ | refine g_end ?_
  repeat (first | refine g_endt ?_ | refine g_end ?_ | refine g_then ?_ | refine g_in_normal ?_ | refine g_then_ret ?_ | refine g_in_ret ?_ | refine g_then_exit ?_ | refine g_in_exit rfl ?_ | refine g_in_exit_ne (by decide) ?_ | refine g_seq ?_ | refine g_region ?_ | refine g_block ?_ | refine g_ret ?_ | refine g_return_n ?_ | refine g_exit ?_ | refine g_skip ?_)
  refine o_move ?_
  first | refine g_endt ?_ | refine g_end ?_
  repeat (first | refine g_endt ?_ | refine g_end ?_ | refine g_then ?_ | refine g_in_normal ?_ | refine g_then_ret ?_ | refine g_in_ret ?_ | refine g_then_exit ?_ | refine g_in_exit rfl ?_ | refine g_in_exit_ne (by decide) ?_ | refine g_seq ?_ | refine g_region ?_ | refine g_block ?_ | refine g_ret ?_ | refine g_return_n ?_ | refine g_exit ?_ | refine g_skip ?_)
  change G _ _ (cellsB b #[.int .i64 (most [])] 3 :: Ks) _
  refine g_range (ps := [6]) (enc := encI) (xs := ys) rfl (fun pre => cellsB b #[.int .i64 (most pre)] 3 :: Ks) (fun _ _ => [pu False]) (fun K => hit [K, _]) (fun _ => rfl) ?_ ?_ ?_
  · intro w0 F l r pre x hp
    repeat (first | refine g_endt ?_ | refine g_end ?_ | refine g_then ?_ | refine g_in_normal ?_ | refine g_then_ret ?_ | refine g_in_ret ?_ | refine g_then_exit ?_ | refine g_in_exit rfl ?_ | refine g_in_exit_ne (by decide) ?_ | refine g_seq ?_ | refine g_region ?_ | refine g_block ?_ | refine g_ret ?_ | refine g_return_n ?_ | refine g_exit ?_ | refine g_skip ?_)
    refine o_assign ?_
    first | refine g_endt ?_ | refine g_end ?_
    repeat (first | refine g_endt ?_ | refine g_end ?_ | refine g_then ?_ | refine g_in_normal ?_ | refine g_then_ret ?_ | refine g_in_ret ?_ | refine g_then_exit ?_ | refine g_in_exit rfl ?_ | refine g_in_exit_ne (by decide) ?_ | refine g_seq ?_ | refine g_region ?_ | refine g_block ?_ | refine g_ret ?_ | refine g_return_n ?_ | refine g_exit ?_ | refine g_skip ?_)
    refine g_begin ?_
    repeat (first | refine g_endt ?_ | refine g_end ?_ | refine g_then ?_ | refine g_in_normal ?_ | refine g_then_ret ?_ | refine g_in_ret ?_ | refine g_then_exit ?_ | refine g_in_exit rfl ?_ | refine g_in_exit_ne (by decide) ?_ | refine g_seq ?_ | refine g_region ?_ | refine g_block ?_ | refine g_ret ?_ | refine g_return_n ?_ | refine g_exit ?_ | refine g_skip ?_)
    refine o_load1 (v := .int .i64 (most pre)) rfl rfl ?_
    refine o_move ?_
    refine o_max rfl rfl ?_
    refine o_store rfl rfl rfl rfl rfl ?_
    first | refine g_endt ?_ | refine g_end ?_
    have e : max (most pre) x = most (pre ++ [x]) := by simp [most, List.foldl_append]
    refine g_next (tk := (by rw [← e]; infer_instance : Take (cellsB b #[.int .i64 (max (most pre) x)] 3 :: Ks) (cellsB b #[.int .i64 (most (pre ++ [x]))] 3 :: Ks) _))
  · intro D
    repeat (first | refine g_endt ?_ | refine g_end ?_ | refine g_then ?_ | refine g_in_normal ?_ | refine g_then_ret ?_ | refine g_in_ret ?_ | refine g_then_exit ?_ | refine g_in_exit rfl ?_ | refine g_in_exit_ne (by decide) ?_ | refine g_seq ?_ | refine g_region ?_ | refine g_block ?_ | refine g_ret ?_ | refine g_return_n ?_ | refine g_exit ?_ | refine g_skip ?_)
    refine o_load1 (v := .int .i64 (most ys)) rfl rfl ?_
    refine o_assign ?_
    first | refine g_endt ?_ | refine g_end ?_
    repeat (first | refine g_endt ?_ | refine g_end ?_ | refine g_then ?_ | refine g_in_normal ?_ | refine g_then_ret ?_ | refine g_in_ret ?_ | refine g_then_exit ?_ | refine g_in_exit rfl ?_ | refine g_in_exit_ne (by decide) ?_ | refine g_seq ?_ | refine g_region ?_ | refine g_block ?_ | refine g_ret ?_ | refine g_return_n ?_ | refine g_exit ?_ | refine g_skip ?_)
    exact ret1 rfl (resT rfl) ⟨rfl, rfl⟩
  · intro D c pre hp
    refine G.pu fun h => h.elim
end Go.Proofs.Ythledhcealmkbaa
/- The support of what an instantiation prefers; the document's example. -/
namespace Go.Proofs.Ythledhcealmkbaa
open Go Go.Sl
attribute [local irreducible] Code.wpIn roundPost bodyPostM runL Ret Meets Begin

def lev (ns : List Int) (i : Nat) : Int := (ns[i]?).getD 0
def Oat (xs : List ElemD) (ns : List Int) (i : Nat) : Bool := match xs[i]? with
  | some e => e.chosen && decide (lev ns i = most ns)
  | none => false
def OD (xs : List ElemD) (ns : List Int) : Bool := (List.range xs.length).any (Oat xs ns)
theorem OD_true {xs : List ElemD} {ns : List Int} {i : Nat} (hi : i < xs.length) (h : Oat xs ns i = true) : OD xs ns = true := by
  simp only [OD, List.any_eq_true, List.mem_range]
  exact ⟨i, hi, h⟩
theorem OD_false {xs : List ElemD} {ns : List Int} (h : ∀ j, j < xs.length → Oat xs ns j = false) : OD xs ns = false := by
  simp only [OD, List.any_eq_false, List.mem_range]
  exact fun j hj => by simp [h j hj]
theorem O_spec (A B : Option Addr) (la ca lb cb : Nat) (xs : List ElemD) (ns : List Int) (hx : xs.length = la) (hn : ns.length = lb) (ha : la ≤ 9223372036854775807) (hb : lb ≤ 9223372036854775807) :
    Ctr Try.prog 14 [.slice A la ca, .slice B lb cb] [psl encE 12 A xs, psl encI 1 B ns] (fun v M => v = .bool (OD xs ns) ∧ M = []) := by
  refine spec_of Try.func14 rfl Try.ntmps14 rfl fun w0 F => ?_
  repeat (first | refine g_endt ?_ | refine g_end ?_ | refine g_then ?_ | refine g_in_normal ?_ | refine g_then_ret ?_ | refine g_in_ret ?_ | refine g_then_exit ?_ | refine g_in_exit rfl ?_ | refine g_in_exit_ne (by decide) ?_ | refine g_seq ?_ | refine g_region ?_ | refine g_block ?_ | refine g_ret ?_ | refine g_return_n ?_ | refine g_exit ?_ | refine g_skip ?_)
  refine o_assign ?_
  first | refine g_endt ?_ | refine g_end ?_
  repeat (first | refine g_endt ?_ | refine g_end ?_ | refine g_then ?_ | refine g_in_normal ?_ | refine g_then_ret ?_ | refine g_in_ret ?_ | refine g_then_exit ?_ | refine g_in_exit rfl ?_ | refine g_in_exit_ne (by decide) ?_ | refine g_seq ?_ | refine g_region ?_ | refine g_block ?_ | refine g_ret ?_ | refine g_return_n ?_ | refine g_exit ?_ | refine g_skip ?_)
  refine o_move ?_
  -- 1: Op.call { callee := Callee.value (Operand.func 28), args := #[Operand.tmp 9], argTypes := #[22] }
  refine o_call (each_spec B lb cb) rfl rfl ?_
  rintro _ _ ⟨b, rfl, rfl⟩
  refine o_callp (Level_spec 31 [.pointer (some ⟨b, 0, none⟩)] ns [pblk b (.cells #[.slice B lb cb] 22 (0, 0)), psl encI 1 B ns] (fun K => each1_iter b B lb cb ns hn hb _)) rfl rfl ?_
  rintro _ _ ⟨rfl, rfl⟩
  refine o_assign ?_
  first | refine g_endt ?_ | refine g_end ?_
  repeat (first | refine g_endt ?_ | refine g_end ?_ | refine g_then ?_ | refine g_in_normal ?_ | refine g_then_ret ?_ | refine g_in_ret ?_ | refine g_then_exit ?_ | refine g_in_exit rfl ?_ | refine g_in_exit_ne (by decide) ?_ | refine g_seq ?_ | refine g_region ?_ | refine g_block ?_ | refine g_ret ?_ | refine g_return_n ?_ | refine g_exit ?_ | refine g_skip ?_)
  refine o_move ?_
  refine o_len rfl rfl ?_
  refine o_move ?_
  first | refine g_endt ?_ | refine g_end ?_
  repeat (first | refine g_endt ?_ | refine g_end ?_ | refine g_then ?_ | refine g_in_normal ?_ | refine g_then_ret ?_ | refine g_in_ret ?_ | refine g_then_exit ?_ | refine g_in_exit rfl ?_ | refine g_in_exit_ne (by decide) ?_ | refine g_seq ?_ | refine g_region ?_ | refine g_block ?_ | refine g_ret ?_ | refine g_return_n ?_ | refine g_exit ?_ | refine g_skip ?_)
  refine g_loop (σ := {i : Nat // i ≤ xs.length ∧ ∀ j, j < i → Oat xs ns j = false}) (S := fun i => [(1, .slice B lb cb), (5, .int .i64 (most ns)), (12, .slice A la ca), (13, .int .i64 (la : Int)), (14, .int .i64 ((i.1 : Nat) : Int))])
    (H := fun _ => [psl encE 12 A xs, psl encI 1 B ns]) (μ := fun i => xs.length - i.1) (s0 := ⟨0, Nat.zero_le _, fun j h => absurd h (Nat.not_lt_zero j)⟩) (Sat.mem ⟨rfl, rfl, rfl, rfl, rfl, trivial⟩) ?_
  rintro ⟨i, hi, hj⟩ ρ'
  dsimp only
  repeat (first | refine g_endt ?_ | refine g_end ?_ | refine g_then ?_ | refine g_in_normal ?_ | refine g_then_ret ?_ | refine g_in_ret ?_ | refine g_then_exit ?_ | refine g_in_exit rfl ?_ | refine g_in_exit_ne (by decide) ?_ | refine g_seq ?_ | refine g_region ?_ | refine g_block ?_ | refine g_ret ?_ | refine g_return_n ?_ | refine g_exit ?_ | refine g_skip ?_)
  refine o_lss rfl rfl ?_
  first | refine g_endt ?_ | refine g_end ?_
  by_cases h : i < la
  · refine g_seq (g_cond_t rfl (by simpa using h) ?_)
    have hi' : i < xs.length := by omega
    obtain ⟨e, hz⟩ : ∃ e, xs[i]? = some e := ⟨_, List.getElem?_eq_getElem hi'⟩
    repeat (first | refine g_endt ?_ | refine g_end ?_ | refine g_then ?_ | refine g_in_normal ?_ | refine g_then_ret ?_ | refine g_in_ret ?_ | refine g_then_exit ?_ | refine g_in_exit rfl ?_ | refine g_in_exit_ne (by decide) ?_ | refine g_seq ?_ | refine g_region ?_ | refine g_block ?_ | refine g_ret ?_ | refine g_return_n ?_ | refine g_exit ?_ | refine g_skip ?_)
    refine o_move ?_
    refine o_indexR rfl rfl rfl hi' hx rfl ?_
    refine o_loadE (enc := encE) rfl rfl hz ?_
    refine o_alloc fun c => ?_
    refine o_assign ?_
    refine o_store (v := e.val) rfl rfl rfl rfl rfl ?_
    refine g_endt ?_
    change G _ _ [cellsB c e.val.cells 35, psl encE 12 A xs, psl encI 1 B ns] _
    repeat (first | refine g_endt ?_ | refine g_end ?_ | refine g_then ?_ | refine g_in_normal ?_ | refine g_then_ret ?_ | refine g_in_ret ?_ | refine g_then_exit ?_ | refine g_in_exit rfl ?_ | refine g_in_exit_ne (by decide) ?_ | refine g_seq ?_ | refine g_region ?_ | refine g_block ?_ | refine g_ret ?_ | refine g_return_n ?_ | refine g_exit ?_ | refine g_skip ?_)
    refine o_assign ?_
    first | refine g_endt ?_ | refine g_end ?_
    repeat (first | refine g_endt ?_ | refine g_end ?_ | refine g_then ?_ | refine g_in_normal ?_ | refine g_then_ret ?_ | refine g_in_ret ?_ | refine g_then_exit ?_ | refine g_in_exit rfl ?_ | refine g_in_exit_ne (by decide) ?_ | refine g_seq ?_ | refine g_region ?_ | refine g_block ?_ | refine g_ret ?_ | refine g_return_n ?_ | refine g_exit ?_ | refine g_skip ?_)
    refine o_move ?_
    refine o_move ?_
    refine o_len rfl rfl ?_
    refine o_lss rfl rfl ?_
    first | refine g_endt ?_ | refine g_end ?_
    refine g_cutk (σ := Unit) (ds' := []) (S := fun _ => [(1, .slice B lb cb), (5, .int .i64 (most ns)), (12, .slice A la ca), (13, .int .i64 (la : Int)), (14, .int .i64 (i : Int)), (7, .pointer (some ⟨c, 0, none⟩)), (8, .int .i64 (lev ns i))])
      (H := fun _ => [cellsB c e.val.cells 35, psl encE 12 A xs, psl encI 1 B ns]) (ok := fun _ => True) ?_ ?_
    · by_cases hl : i < lb
      · refine g_cond_t rfl (by simpa using hl) ?_
        have hl' : i < ns.length := by omega
        obtain ⟨m, hm⟩ : ∃ m, ns[i]? = some m := ⟨_, List.getElem?_eq_getElem hl'⟩
        have e1 : lev ns i = m := by simp [lev, hm]
        repeat (first | refine g_endt ?_ | refine g_end ?_ | refine g_then ?_ | refine g_in_normal ?_ | refine g_then_ret ?_ | refine g_in_ret ?_ | refine g_then_exit ?_ | refine g_in_exit rfl ?_ | refine g_in_exit_ne (by decide) ?_ | refine g_seq ?_ | refine g_region ?_ | refine g_block ?_ | refine g_ret ?_ | refine g_return_n ?_ | refine g_exit ?_ | refine g_skip ?_)
        refine o_move ?_
        refine o_move ?_
        refine o_indexR rfl rfl rfl hl' hn rfl ?_
        refine o_loadE0 (enc := encI) (v := .int .i64 m) rfl hm rfl ?_
        refine o_assign ?_
        first | refine g_endt ?_ | refine g_end ?_
        repeat (first | refine g_endt ?_ | refine g_end ?_ | refine g_then ?_ | refine g_in_normal ?_ | refine g_then_ret ?_ | refine g_in_ret ?_ | refine g_then_exit ?_ | refine g_in_exit rfl ?_ | refine g_in_exit_ne (by decide) ?_ | refine g_seq ?_ | refine g_region ?_ | refine g_block ?_ | refine g_ret ?_ | refine g_return_n ?_ | refine g_exit ?_ | refine g_skip ?_)
        exact g_meets () trivial (Sat.mem ⟨rfl, rfl, rfl, rfl, rfl, rfl, by rw [e1]; rfl, trivial⟩)
      · refine g_cond_f rfl (by simpa using hl) ?_
        have e1 : lev ns i = 0 := by simp [lev, List.getElem?_eq_none (show ns.length ≤ i by omega)]
        repeat (first | refine g_endt ?_ | refine g_end ?_ | refine g_then ?_ | refine g_in_normal ?_ | refine g_then_ret ?_ | refine g_in_ret ?_ | refine g_then_exit ?_ | refine g_in_exit rfl ?_ | refine g_in_exit_ne (by decide) ?_ | refine g_seq ?_ | refine g_region ?_ | refine g_block ?_ | refine g_ret ?_ | refine g_return_n ?_ | refine g_exit ?_ | refine g_skip ?_)
        exact g_meets () trivial (Sat.mem ⟨rfl, rfl, rfl, rfl, rfl, rfl, by rw [e1]; rfl, trivial⟩)
    · intro _ ρ'' _
      repeat (first | refine g_endt ?_ | refine g_end ?_ | refine g_then ?_ | refine g_in_normal ?_ | refine g_then_ret ?_ | refine g_in_ret ?_ | refine g_then_exit ?_ | refine g_in_exit rfl ?_ | refine g_in_exit_ne (by decide) ?_ | refine g_seq ?_ | refine g_region ?_ | refine g_block ?_ | refine g_ret ?_ | refine g_return_n ?_ | refine g_exit ?_ | refine g_skip ?_)
      refine o_loadN (v := e.val) rfl rfl rfl ?_
      refine o_call (Chosen_spec e) rfl rfl ?_
      rintro _ _ ⟨rfl, rfl⟩
      cases hc : e.chosen
      · skip
        refine o_move ?_
        first | (refine o_want rfl rfl rfl rfl rfl ?_; refine o_move ?_) | refine o_unwanted rfl rfl rfl rfl rfl ?_ | refine o_undef rfl rfl rfl ?_
        first | (refine o_want rfl rfl rfl rfl rfl ?_; refine o_move ?_) | refine o_unwanted rfl rfl rfl rfl rfl ?_ | refine o_undef rfl rfl rfl ?_
        first | (refine o_want rfl rfl rfl rfl rfl ?_; refine o_eql rfl rfl ?_) | refine o_unwanted rfl rfl rfl rfl rfl ?_ | refine o_undef rfl rfl rfl ?_
        first | refine o_pick_t rfl rfl ?_ | refine o_pick_f rfl rfl ?_
        first | refine g_endt ?_ | refine g_end ?_
        refine g_cond_f rfl rfl ?_
        repeat (first | refine g_endt ?_ | refine g_end ?_ | refine g_then ?_ | refine g_in_normal ?_ | refine g_then_ret ?_ | refine g_in_ret ?_ | refine g_then_exit ?_ | refine g_in_exit rfl ?_ | refine g_in_exit_ne (by decide) ?_ | refine g_seq ?_ | refine g_region ?_ | refine g_block ?_ | refine g_ret ?_ | refine g_return_n ?_ | refine g_exit ?_ | refine g_skip ?_)
        refine o_add rfl rfl rfl (by omega) (by omega) ?_
        refine o_move ?_
        first | refine g_endt ?_ | refine g_end ?_
        repeat (first | refine g_endt ?_ | refine g_end ?_ | refine g_then ?_ | refine g_in_normal ?_ | refine g_then_ret ?_ | refine g_in_ret ?_ | refine g_then_exit ?_ | refine g_in_exit rfl ?_ | refine g_in_exit_ne (by decide) ?_ | refine g_seq ?_ | refine g_region ?_ | refine g_block ?_ | refine g_ret ?_ | refine g_return_n ?_ | refine g_exit ?_ | refine g_skip ?_)
        exact g_meets ⟨i + 1, hi', fun j hj' => (Nat.lt_succ_iff_lt_or_eq.1 hj').elim (hj j) (fun e => by subst e; simp [Oat, hz, hc])⟩ (by show xs.length - (i + 1) < xs.length - i; omega) (Sat.mem ⟨rfl, rfl, rfl, rfl, rfl, trivial⟩)
      · skip
        refine o_move ?_
        first | (refine o_want rfl rfl rfl rfl rfl ?_; refine o_move ?_) | refine o_unwanted rfl rfl rfl rfl rfl ?_ | refine o_undef rfl rfl rfl ?_
        first | (refine o_want rfl rfl rfl rfl rfl ?_; refine o_move ?_) | refine o_unwanted rfl rfl rfl rfl rfl ?_ | refine o_undef rfl rfl rfl ?_
        first | (refine o_want rfl rfl rfl rfl rfl ?_; refine o_eql rfl rfl ?_) | refine o_unwanted rfl rfl rfl rfl rfl ?_ | refine o_undef rfl rfl rfl ?_
        first | refine o_pick_t rfl rfl ?_ | refine o_pick_f rfl rfl ?_
        first | refine g_endt ?_ | refine g_end ?_
        by_cases hq : lev ns i = most ns
        · refine g_cond_t rfl (by simpa using hq) ?_
          repeat (first | refine g_endt ?_ | refine g_end ?_ | refine g_then ?_ | refine g_in_normal ?_ | refine g_then_ret ?_ | refine g_in_ret ?_ | refine g_then_exit ?_ | refine g_in_exit rfl ?_ | refine g_in_exit_ne (by decide) ?_ | refine g_seq ?_ | refine g_region ?_ | refine g_block ?_ | refine g_ret ?_ | refine g_return_n ?_ | refine g_exit ?_ | refine g_skip ?_)
          refine o_assign ?_
          first | refine g_endt ?_ | refine g_end ?_
          repeat (first | refine g_endt ?_ | refine g_end ?_ | refine g_then ?_ | refine g_in_normal ?_ | refine g_then_ret ?_ | refine g_in_ret ?_ | refine g_then_exit ?_ | refine g_in_exit rfl ?_ | refine g_in_exit_ne (by decide) ?_ | refine g_seq ?_ | refine g_region ?_ | refine g_block ?_ | refine g_ret ?_ | refine g_return_n ?_ | refine g_exit ?_ | refine g_skip ?_)
          exact ret1 rfl (resT (v := .bool true) rfl) ⟨by rw [OD_true hi' (by simp [Oat, hz, hc, hq])], rfl⟩
        · refine g_cond_f rfl (by simpa using hq) ?_
          repeat (first | refine g_endt ?_ | refine g_end ?_ | refine g_then ?_ | refine g_in_normal ?_ | refine g_then_ret ?_ | refine g_in_ret ?_ | refine g_then_exit ?_ | refine g_in_exit rfl ?_ | refine g_in_exit_ne (by decide) ?_ | refine g_seq ?_ | refine g_region ?_ | refine g_block ?_ | refine g_ret ?_ | refine g_return_n ?_ | refine g_exit ?_ | refine g_skip ?_)
          refine o_add rfl rfl rfl (by omega) (by omega) ?_
          refine o_move ?_
          first | refine g_endt ?_ | refine g_end ?_
          repeat (first | refine g_endt ?_ | refine g_end ?_ | refine g_then ?_ | refine g_in_normal ?_ | refine g_then_ret ?_ | refine g_in_ret ?_ | refine g_then_exit ?_ | refine g_in_exit rfl ?_ | refine g_in_exit_ne (by decide) ?_ | refine g_seq ?_ | refine g_region ?_ | refine g_block ?_ | refine g_ret ?_ | refine g_return_n ?_ | refine g_exit ?_ | refine g_skip ?_)
          exact g_meets ⟨i + 1, hi', fun j hj' => (Nat.lt_succ_iff_lt_or_eq.1 hj').elim (hj j) (fun e => by subst e; simp [Oat, hz, hq])⟩ (by show xs.length - (i + 1) < xs.length - i; omega) (Sat.mem ⟨rfl, rfl, rfl, rfl, rfl, trivial⟩)
  · refine g_seq (g_cond_f rfl (by simpa using h) ?_)
    repeat (first | refine g_endt ?_ | refine g_end ?_ | refine g_then ?_ | refine g_in_normal ?_ | refine g_then_ret ?_ | refine g_in_ret ?_ | refine g_then_exit ?_ | refine g_in_exit rfl ?_ | refine g_in_exit_ne (by decide) ?_ | refine g_seq ?_ | refine g_region ?_ | refine g_block ?_ | refine g_ret ?_ | refine g_return_n ?_ | refine g_exit ?_ | refine g_skip ?_)
    refine o_assign ?_
    first | refine g_endt ?_ | refine g_end ?_
    repeat (first | refine g_endt ?_ | refine g_end ?_ | refine g_then ?_ | refine g_in_normal ?_ | refine g_then_ret ?_ | refine g_in_ret ?_ | refine g_then_exit ?_ | refine g_in_exit rfl ?_ | refine g_in_exit_ne (by decide) ?_ | refine g_seq ?_ | refine g_region ?_ | refine g_block ?_ | refine g_ret ?_ | refine g_return_n ?_ | refine g_exit ?_ | refine g_skip ?_)
    exact ret1 rfl (resT (v := .bool false) rfl) ⟨by rw [OD_false (fun j hj' => hj j (by omega))], rfl⟩
end Go.Proofs.Ythledhcealmkbaa
/- The document's example. -/
namespace Go.Proofs.Ythledhcealmkbaa
open Go Go.Sl
attribute [local irreducible] Code.wpIn roundPost bodyPostM runL Ret Meets Begin

def exA : ElemD := ⟨⟨1, ⟨#[83]⟩, 1⟩, opSym, ⟨1, ⟨#[79]⟩, 1⟩, false, true, 0⟩
def exB : ElemD := ⟨⟨1, ⟨#[83]⟩, 2⟩, ⟨3, ⟨#[120]⟩, 0⟩, ⟨2, ByteArray.empty, 1⟩, false, true, 0⟩
theorem exOp : opSym.beq opSym = true := (SymD.beq_iff _ _).2 rfl
theorem exChosen : exA.chosen = true := by simp [ElemD.chosen, exA, exOp]
theorem exNot : OD [exA, exB] [1, 2] = false := by
  refine OD_false fun j hj => ?_
  match j with
  | 0 => simp [Oat, exChosen, lev, most]; omega
  | 1 =>
    have : exB.chosen = false := by
      have : ⟨3, ⟨#[120]⟩, 0⟩ ≠ opSym := by intro h; have := congrArg (fun s => s.text.size) h; simp [opSym, opText] at this; revert this; decide
      have h2 : SymD.beq ⟨3, ⟨#[120]⟩, 0⟩ opSym = false := by
        cases hb : SymD.beq ⟨3, ⟨#[120]⟩, 0⟩ opSym with
        | false => rfl
        | true => exact absurd ((SymD.beq_iff _ _).1 hb) this
      simp [ElemD.chosen, exB, h2]
    simp [Oat, this]
theorem exIs : OD [exA, exB] [2, 2] = true := OD_true (i := 0) (by simp) (by simp [Oat, exChosen, lev, most]; omega)
theorem wakes_spec : Ctr Try.prog 8 [] [] (fun v M => v = .bool true ∧ M = []) := by
  refine spec_of Try.func8 rfl Try.ntmps8 rfl fun w0 F => ?_
  repeat (first | refine g_endt ?_ | refine g_end ?_ | refine g_then ?_ | refine g_in_normal ?_ | refine g_then_ret ?_ | refine g_in_ret ?_ | refine g_then_exit ?_ | refine g_in_exit rfl ?_ | refine g_in_exit_ne (by decide) ?_ | refine g_seq ?_ | refine g_region ?_ | refine g_block ?_ | refine g_ret ?_ | refine g_return_n ?_ | refine g_exit ?_ | refine g_skip ?_)
  refine o_assign ?_
  first | refine g_endt ?_ | refine g_end ?_
  repeat (first | refine g_endt ?_ | refine g_end ?_ | refine g_then ?_ | refine g_in_normal ?_ | refine g_then_ret ?_ | refine g_in_ret ?_ | refine g_then_exit ?_ | refine g_in_exit rfl ?_ | refine g_in_exit_ne (by decide) ?_ | refine g_seq ?_ | refine g_region ?_ | refine g_block ?_ | refine g_ret ?_ | refine g_return_n ?_ | refine g_exit ?_ | refine g_skip ?_)
  refine o_call (I_spec ⟨#[83]⟩ 1) rfl rfl ?_
  rintro _ _ ⟨rfl, rfl⟩
  refine o_call (W_spec opText) rfl rfl ?_
  rintro _ _ ⟨rfl, rfl⟩
  refine o_call (I_spec ⟨#[79]⟩ 1) rfl rfl ?_
  rintro _ _ ⟨rfl, rfl⟩
  refine o_build exA.val (fun w => by kernel_rfl) ?_
  refine o_call (I_spec ⟨#[83]⟩ 2) rfl rfl ?_
  rintro _ _ ⟨rfl, rfl⟩
  refine o_call (W_spec ⟨#[120]⟩) rfl rfl ?_
  rintro _ _ ⟨rfl, rfl⟩
  refine o_call (N_spec 1) rfl rfl ?_
  rintro _ _ ⟨rfl, rfl⟩
  refine o_build exB.val (fun w => by kernel_rfl) ?_
  refine o_slice_lit (e := 35) (exA.val.cells ++ exB.val.cells) (fun w => by kernel_rfl) fun b => ?_
  change G _ _ [cellsB b (exA.val.cells ++ exB.val.cells) 35] _
  refine G.lit_slice (enc := encE) (sz := 12) [exA, exB] rfl (by decide) ?_
  refine G.freeze_slice ?_
  refine o_assign ?_
  first | refine g_endt ?_ | refine g_end ?_
  repeat (first | refine g_endt ?_ | refine g_end ?_ | refine g_then ?_ | refine g_in_normal ?_ | refine g_then_ret ?_ | refine g_in_ret ?_ | refine g_then_exit ?_ | refine g_in_exit rfl ?_ | refine g_in_exit_ne (by decide) ?_ | refine g_seq ?_ | refine g_region ?_ | refine g_block ?_ | refine g_ret ?_ | refine g_return_n ?_ | refine g_exit ?_ | refine g_skip ?_)
  refine o_move ?_
  refine o_slice_lit (e := 3) #[.int .i64 1, .int .i64 2] (fun w => by kernel_rfl) fun c => ?_
  refine G.lit_slice (enc := encI) (sz := 1) [1, 2] rfl (by decide) ?_
  refine G.freeze_slice ?_
  refine o_callp (O_spec _ _ 2 2 2 2 [exA, exB] [1, 2] rfl rfl (by decide) (by decide)) rfl rfl ?_
  rintro _ _ ⟨rfl, rfl⟩
  rw [exNot]
  refine o_not rfl ?_
  refine o_move ?_
  refine o_want rfl rfl rfl rfl rfl (o_move ?_)
  refine o_want rfl rfl rfl rfl rfl (o_slice_lit (e := 3) #[.int .i64 2, .int .i64 2] (fun w => by kernel_rfl) fun c2 => ?_)
  refine G.lit_slice (enc := encI) (sz := 1) [2, 2] rfl (by decide) ?_
  refine G.freeze_slice ?_
  refine o_want rfl rfl rfl rfl rfl (o_callp (O_spec _ _ 2 2 2 2 [exA, exB] [2, 2] rfl rfl (by decide) (by decide)) rfl rfl ?_)
  rintro _ _ ⟨rfl, rfl⟩
  rw [exIs]
  refine o_pick_t rfl rfl ?_
  refine o_move ?_
  refine o_want rfl rfl rfl rfl rfl (o_move ?_)
  refine o_want rfl rfl rfl rfl rfl (o_indexR (i := 0) (enc := encE) (ys := [exA, exB]) rfl rfl rfl (by decide) rfl rfl ?_)
  refine o_want rfl rfl rfl rfl rfl (o_loadE (i := 0) (z := exA) (enc := encE) (ys := [exA, exB]) rfl rfl rfl ?_)
  refine o_want rfl rfl rfl rfl rfl (o_call (Chosen_spec exA) rfl rfl ?_)
  rintro _ _ ⟨rfl, rfl⟩
  rw [exChosen]
  first | refine o_pick_t rfl rfl ?_ | refine o_pick_f rfl rfl ?_
  refine o_assign ?_
  first | refine g_endt ?_ | refine g_end ?_
  repeat (first | refine g_endt ?_ | refine g_end ?_ | refine g_then ?_ | refine g_in_normal ?_ | refine g_then_ret ?_ | refine g_in_ret ?_ | refine g_then_exit ?_ | refine g_in_exit rfl ?_ | refine g_in_exit_ne (by decide) ?_ | refine g_seq ?_ | refine g_region ?_ | refine g_block ?_ | refine g_ret ?_ | refine g_return_n ?_ | refine g_exit ?_ | refine g_skip ?_)
  exact ret1 rfl (resT rfl) ⟨rfl, rfl⟩
end Go.Proofs.Ythledhcealmkbaa
/- Numbers told again, the greatest of them as the reference has it; lists copied; lists compared. -/
namespace Go.Proofs.Ythledhcealmkbaa
open Go Go.Sl
attribute [local irreducible] Code.wpIn roundPost bodyPostM runL Ret Meets Begin

theorem Of1_iter (b : Nat) (A : Option Addr) (len cap : Nat) (ys : List Int) (hl : ys.length = len) (hm : len ≤ 9223372036854775807) (J0 : List SProp) [HasP J0 (pblk b (.cells #[.slice A len cap] 22 (0, 0)))] [HasP J0 (psl encI 1 A ys)] :
    Iter Try.prog 27 [.pointer (some ⟨b, 0, none⟩)] encI ys J0 := by
  intro l J Jx hJ hy
  refine spec_of Try.func27 rfl Try.ntmps27 rfl fun w0 F => ?_
  refine G.dup (pblk b (.cells #[.slice A len cap] 22 (0, 0))) ?_
  refine G.dup (psl encI 1 A ys) ?_
  subst hJ
  repeat (first | refine g_endt ?_ | refine g_end ?_ | refine g_then ?_ | refine g_in_normal ?_ | refine g_then_ret ?_ | refine g_in_ret ?_ | refine g_then_exit ?_ | refine g_in_exit rfl ?_ | refine g_in_exit_ne (by decide) ?_ | refine g_seq ?_ | refine g_region ?_ | refine g_block ?_ | refine g_ret ?_ | refine g_return_n ?_ | refine g_exit ?_ | refine g_skip ?_)
  refine o_assign ?_
  first | refine g_endt ?_ | refine g_end ?_
  repeat (first | refine g_endt ?_ | refine g_end ?_ | refine g_then ?_ | refine g_in_normal ?_ | refine g_then_ret ?_ | refine g_in_ret ?_ | refine g_then_exit ?_ | refine g_in_exit rfl ?_ | refine g_in_exit_ne (by decide) ?_ | refine g_seq ?_ | refine g_region ?_ | refine g_block ?_ | refine g_ret ?_ | refine g_return_n ?_ | refine g_exit ?_ | refine g_skip ?_)
  refine g_loop (σ := {i : Nat // i ≤ ys.length}) (S := fun i => [(0, .func (.yield l) #[] #[]), (1, .pointer (some ⟨b, 0, none⟩)), (3, .int .i64 ((i.1 : Nat) : Int))])
    (H := fun i => psl encI 1 A ys :: pblk b (.cells #[.slice A len cap] 22 (0, 0)) :: J (ys.take i.1)) (μ := fun i => ys.length - i.1) (s0 := ⟨0, Nat.zero_le _⟩) (Sat.mem ⟨rfl, rfl, rfl, trivial⟩) (t := by simp only [List.take_zero]; infer_instance) ?_
  rintro ⟨i, hi⟩ ρ'
  dsimp only
  repeat (first | refine g_endt ?_ | refine g_end ?_ | refine g_then ?_ | refine g_in_normal ?_ | refine g_then_ret ?_ | refine g_in_ret ?_ | refine g_then_exit ?_ | refine g_in_exit rfl ?_ | refine g_in_exit_ne (by decide) ?_ | refine g_seq ?_ | refine g_region ?_ | refine g_block ?_ | refine g_ret ?_ | refine g_return_n ?_ | refine g_exit ?_ | refine g_skip ?_)
  refine o_move ?_
  refine o_load1 rfl rfl ?_
  refine o_len rfl rfl ?_
  refine o_lss rfl rfl ?_
  first | refine g_endt ?_ | refine g_end ?_
  by_cases h : i < len
  · first | refine g_seq (g_cond_t rfl (by simpa using h) ?_) | refine g_cond_t rfl (by simpa using h) ?_
    have hi' : i < ys.length := by omega
    have hz : ys[i]? = some ys[i] := List.getElem?_eq_getElem hi'
    have ht := take_snoc ys i _ hz
    repeat (first | refine g_endt ?_ | refine g_end ?_ | refine g_then ?_ | refine g_in_normal ?_ | refine g_then_ret ?_ | refine g_in_ret ?_ | refine g_then_exit ?_ | refine g_in_exit rfl ?_ | refine g_in_exit_ne (by decide) ?_ | refine g_seq ?_ | refine g_region ?_ | refine g_block ?_ | refine g_ret ?_ | refine g_return_n ?_ | refine g_exit ?_ | refine g_skip ?_)
    refine o_move ?_
    refine o_load1 (v := .slice A len cap) rfl rfl ?_
    refine o_move ?_
    refine o_indexR rfl rfl rfl hi' hl rfl ?_
    refine o_loadE0 (enc := encI) (v := .int .i64 ys[i]) rfl hz rfl ?_
    have hp : (ys.take i ++ [ys[i]]) <+: ys := ⟨ys.drop (i + 1), by rw [← ht, List.take_append_drop]⟩
    refine o_yield (hy (ys.take i) ys[i] hp) rfl rfl ?_ ?_
    · refine o_not rfl ?_
      refine g_endt ?_
      refine g_cond_f rfl rfl ?_
      repeat (first | refine g_endt ?_ | refine g_end ?_ | refine g_then ?_ | refine g_in_normal ?_ | refine g_then_ret ?_ | refine g_in_ret ?_ | refine g_then_exit ?_ | refine g_in_exit rfl ?_ | refine g_in_exit_ne (by decide) ?_ | refine g_seq ?_ | refine g_region ?_ | refine g_block ?_ | refine g_ret ?_ | refine g_return_n ?_ | refine g_exit ?_ | refine g_skip ?_)
      refine o_move ?_
      refine o_add rfl rfl rfl (by omega) (by omega) ?_
      refine o_assign ?_
      first | refine g_endt ?_ | refine g_end ?_
      repeat (first | refine g_endt ?_ | refine g_end ?_ | refine g_then ?_ | refine g_in_normal ?_ | refine g_then_ret ?_ | refine g_in_ret ?_ | refine g_then_exit ?_ | refine g_in_exit rfl ?_ | refine g_in_exit_ne (by decide) ?_ | refine g_seq ?_ | refine g_region ?_ | refine g_block ?_ | refine g_ret ?_ | refine g_return_n ?_ | refine g_exit ?_ | refine g_skip ?_)
      exact g_meets ⟨i + 1, hi'⟩ (by show ys.length - (i + 1) < ys.length - i; omega) (Sat.mem ⟨rfl, rfl, rfl, trivial⟩) (t := by rw [ht]; infer_instance)
    · refine o_not rfl ?_
      refine g_endt ?_
      refine g_cond_t rfl rfl ?_
      repeat (first | refine g_endt ?_ | refine g_end ?_ | refine g_then ?_ | refine g_in_normal ?_ | refine g_then_ret ?_ | refine g_in_ret ?_ | refine g_then_exit ?_ | refine g_in_exit rfl ?_ | refine g_in_exit_ne (by decide) ?_ | refine g_seq ?_ | refine g_region ?_ | refine g_block ?_ | refine g_ret ?_ | refine g_return_n ?_ | refine g_exit ?_ | refine g_skip ?_)
      exact ret0 rfl (.inr ⟨_, hp, rfl⟩)
  · first | refine g_seq (g_cond_f rfl (by simpa using h) ?_) | refine g_cond_f rfl (by simpa using h) ?_
    repeat (first | refine g_endt ?_ | refine g_end ?_ | refine g_then ?_ | refine g_in_normal ?_ | refine g_then_ret ?_ | refine g_in_ret ?_ | refine g_then_exit ?_ | refine g_in_exit rfl ?_ | refine g_in_exit_ne (by decide) ?_ | refine g_seq ?_ | refine g_region ?_ | refine g_block ?_ | refine g_ret ?_ | refine g_return_n ?_ | refine g_exit ?_ | refine g_skip ?_)
    have he : ys.take i = ys := List.take_of_length_le (by omega)
    exact ret0 (K := J (ys.take i)) rfl (.inl (by rw [he]))
theorem OfInt_spec (A : Option Addr) (len cap : Nat) : Ctr Try.prog 10 [.slice A len cap] []
    (fun v M => ∃ b, v = .func (.func 27) #[] #[.pointer (some ⟨b, 0, none⟩)] ∧ M = [pblk b (.cells #[.slice A len cap] 22 (0, 0))]) := by
  refine spec_of Try.func10 rfl Try.ntmps10 rfl fun w0 F => ?_
  repeat (first | refine g_endt ?_ | refine g_end ?_ | refine g_then ?_ | refine g_in_normal ?_ | refine g_then_ret ?_ | refine g_in_ret ?_ | refine g_then_exit ?_ | refine g_in_exit rfl ?_ | refine g_in_exit_ne (by decide) ?_ | refine g_seq ?_ | refine g_region ?_ | refine g_block ?_ | refine g_ret ?_ | refine g_return_n ?_ | refine g_exit ?_ | refine g_skip ?_)
  refine o_boxc #[.slice A len cap] rfl rfl fun b => ?_
  refine G.freeze ?_
  refine o_assign ?_
  first | refine g_endt ?_ | refine g_end ?_
  repeat (first | refine g_endt ?_ | refine g_end ?_ | refine g_then ?_ | refine g_in_normal ?_ | refine g_then_ret ?_ | refine g_in_ret ?_ | refine g_then_exit ?_ | refine g_in_exit rfl ?_ | refine g_in_exit_ne (by decide) ?_ | refine g_seq ?_ | refine g_region ?_ | refine g_block ?_ | refine g_ret ?_ | refine g_return_n ?_ | refine g_exit ?_ | refine g_skip ?_)
  refine o_func ?_
  refine o_assign ?_
  first | refine g_endt ?_ | refine g_end ?_
  repeat (first | refine g_endt ?_ | refine g_end ?_ | refine g_then ?_ | refine g_in_normal ?_ | refine g_then_ret ?_ | refine g_in_ret ?_ | refine g_then_exit ?_ | refine g_in_exit rfl ?_ | refine g_in_exit_ne (by decide) ?_ | refine g_seq ?_ | refine g_region ?_ | refine g_block ?_ | refine g_ret ?_ | refine g_return_n ?_ | refine g_exit ?_ | refine g_skip ?_)
  exact ret1 rfl (resT rfl) ⟨b, rfl, rfl⟩
theorem most_snoc (ys : List Int) (x : Int) : most (ys ++ [x]) = max (most ys) x := by simp [most, List.foldl_append]
theorem Levelref_spec (A : Option Addr) (len cap : Nat) (ys : List Int) (hl : ys.length = len) (hm : len ≤ 9223372036854775807) : Ctr Try.prog 11 [.slice A len cap] [psl encI 1 A ys]
    (fun v M => v = .int .i64 (most ys) ∧ M = []) := by
  refine spec_of Try.func11 rfl Try.ntmps11 rfl fun w0 F => ?_
  repeat (first | refine g_endt ?_ | refine g_end ?_ | refine g_then ?_ | refine g_in_normal ?_ | refine g_then_ret ?_ | refine g_in_ret ?_ | refine g_then_exit ?_ | refine g_in_exit rfl ?_ | refine g_in_exit_ne (by decide) ?_ | refine g_seq ?_ | refine g_region ?_ | refine g_block ?_ | refine g_ret ?_ | refine g_return_n ?_ | refine g_exit ?_ | refine g_skip ?_)
  refine o_assign ?_
  first | refine g_endt ?_ | refine g_end ?_
  repeat (first | refine g_endt ?_ | refine g_end ?_ | refine g_then ?_ | refine g_in_normal ?_ | refine g_then_ret ?_ | refine g_in_ret ?_ | refine g_then_exit ?_ | refine g_in_exit rfl ?_ | refine g_in_exit_ne (by decide) ?_ | refine g_seq ?_ | refine g_region ?_ | refine g_block ?_ | refine g_ret ?_ | refine g_return_n ?_ | refine g_exit ?_ | refine g_skip ?_)
  refine o_assign ?_
  first | refine g_endt ?_ | refine g_end ?_
  repeat (first | refine g_endt ?_ | refine g_end ?_ | refine g_then ?_ | refine g_in_normal ?_ | refine g_then_ret ?_ | refine g_in_ret ?_ | refine g_then_exit ?_ | refine g_in_exit rfl ?_ | refine g_in_exit_ne (by decide) ?_ | refine g_seq ?_ | refine g_region ?_ | refine g_block ?_ | refine g_ret ?_ | refine g_return_n ?_ | refine g_exit ?_ | refine g_skip ?_)
  refine o_assign ?_
  first | refine g_endt ?_ | refine g_end ?_
  repeat (first | refine g_endt ?_ | refine g_end ?_ | refine g_then ?_ | refine g_in_normal ?_ | refine g_then_ret ?_ | refine g_in_ret ?_ | refine g_then_exit ?_ | refine g_in_exit rfl ?_ | refine g_in_exit_ne (by decide) ?_ | refine g_seq ?_ | refine g_region ?_ | refine g_block ?_ | refine g_ret ?_ | refine g_return_n ?_ | refine g_exit ?_ | refine g_skip ?_)
  refine g_loop (σ := {i : Nat // i ≤ ys.length}) (S := fun i => [(0, .slice A len cap), (3, .int .i64 (most (ys.take i.1))), (4, .int .i64 ((i.1 : Nat) : Int))])
    (H := fun i => [psl encI 1 A ys]) (μ := fun i => ys.length - i.1) (s0 := ⟨0, Nat.zero_le _⟩) (Sat.mem ⟨rfl, rfl, rfl, trivial⟩) ?_
  rintro ⟨i, hi⟩ ρ'
  dsimp only
  repeat (first | refine g_endt ?_ | refine g_end ?_ | refine g_then ?_ | refine g_in_normal ?_ | refine g_then_ret ?_ | refine g_in_ret ?_ | refine g_then_exit ?_ | refine g_in_exit rfl ?_ | refine g_in_exit_ne (by decide) ?_ | refine g_seq ?_ | refine g_region ?_ | refine g_block ?_ | refine g_ret ?_ | refine g_return_n ?_ | refine g_exit ?_ | refine g_skip ?_)
  refine o_move ?_
  refine o_move ?_
  refine o_len rfl rfl ?_
  refine o_lss rfl rfl ?_
  first | refine g_endt ?_ | refine g_end ?_
  by_cases h : i < len
  · first | refine g_seq (g_cond_t rfl (by simpa using h) ?_) | refine g_cond_t rfl (by simpa using h) ?_
    have hi' : i < ys.length := by omega
    have hz : ys[i]? = some ys[i] := List.getElem?_eq_getElem hi'
    have ht := take_snoc ys i _ hz
    repeat (first | refine g_endt ?_ | refine g_end ?_ | refine g_then ?_ | refine g_in_normal ?_ | refine g_then_ret ?_ | refine g_in_ret ?_ | refine g_then_exit ?_ | refine g_in_exit rfl ?_ | refine g_in_exit_ne (by decide) ?_ | refine g_seq ?_ | refine g_region ?_ | refine g_block ?_ | refine g_ret ?_ | refine g_return_n ?_ | refine g_exit ?_ | refine g_skip ?_)
    refine o_move ?_
    refine o_move ?_
    refine o_move ?_
    refine o_indexR rfl rfl rfl hi' hl rfl ?_
    refine o_loadE0 (enc := encI) (v := .int .i64 ys[i]) rfl hz rfl ?_
    refine o_max rfl rfl ?_
    refine o_assign ?_
    first | refine g_endt ?_ | refine g_end ?_
    repeat (first | refine g_endt ?_ | refine g_end ?_ | refine g_then ?_ | refine g_in_normal ?_ | refine g_then_ret ?_ | refine g_in_ret ?_ | refine g_then_exit ?_ | refine g_in_exit rfl ?_ | refine g_in_exit_ne (by decide) ?_ | refine g_seq ?_ | refine g_region ?_ | refine g_block ?_ | refine g_ret ?_ | refine g_return_n ?_ | refine g_exit ?_ | refine g_skip ?_)
    refine o_move ?_
    refine o_add rfl rfl rfl (by omega) (by omega) ?_
    refine o_assign ?_
    first | refine g_endt ?_ | refine g_end ?_
    repeat (first | refine g_endt ?_ | refine g_end ?_ | refine g_then ?_ | refine g_in_normal ?_ | refine g_then_ret ?_ | refine g_in_ret ?_ | refine g_then_exit ?_ | refine g_in_exit rfl ?_ | refine g_in_exit_ne (by decide) ?_ | refine g_seq ?_ | refine g_region ?_ | refine g_block ?_ | refine g_ret ?_ | refine g_return_n ?_ | refine g_exit ?_ | refine g_skip ?_)
    exact g_meets ⟨i + 1, hi'⟩ (by show ys.length - (i + 1) < ys.length - i; omega) (Sat.mem ⟨rfl, by rw [ht, most_snoc]; rfl, rfl, trivial⟩)
  · first | refine g_seq (g_cond_f rfl (by simpa using h) ?_) | refine g_cond_f rfl (by simpa using h) ?_
    have he : ys.take i = ys := List.take_of_length_le (by omega)
    repeat (first | refine g_endt ?_ | refine g_end ?_ | refine g_then ?_ | refine g_in_normal ?_ | refine g_then_ret ?_ | refine g_in_ret ?_ | refine g_then_exit ?_ | refine g_in_exit rfl ?_ | refine g_in_exit_ne (by decide) ?_ | refine g_seq ?_ | refine g_region ?_ | refine g_block ?_ | refine g_ret ?_ | refine g_return_n ?_ | refine g_exit ?_ | refine g_skip ?_)
    refine o_move ?_
    refine o_assign ?_
    first | refine g_endt ?_ | refine g_end ?_
    repeat (first | refine g_endt ?_ | refine g_end ?_ | refine g_then ?_ | refine g_in_normal ?_ | refine g_then_ret ?_ | refine g_in_ret ?_ | refine g_then_exit ?_ | refine g_in_exit rfl ?_ | refine g_in_exit_ne (by decide) ?_ | refine g_seq ?_ | refine g_region ?_ | refine g_block ?_ | refine g_ret ?_ | refine g_return_n ?_ | refine g_exit ?_ | refine g_skip ?_)
    exact ret1 rfl (resT (v := .int .i64 (most (ys.take i))) rfl) ⟨by rw [he], rfl⟩
end Go.Proofs.Ythledhcealmkbaa
/- Lists of numbers held against lists that read the same. -/
namespace Go.Proofs.Ythledhcealmkbaa
open Go Go.Sl
attribute [local irreducible] Code.wpIn roundPost bodyPostM runL Ret Meets Begin

theorem Ints_spec (A B : Option Addr) (len cap cap' : Nat) (ys : List Int) (hl : ys.length = len) (hm : len ≤ 9223372036854775807) : Ctr Try.prog 17 [.slice A len cap, .slice B len cap'] [psl encI 1 A ys, psl encI 1 B ys]
    (fun v M => v = .bool true ∧ M = []) := by
  refine spec_of Try.func17 rfl Try.ntmps17 rfl fun w0 F => ?_
  repeat (first | refine g_endt ?_ | refine g_end ?_ | refine g_then ?_ | refine g_in_normal ?_ | refine g_then_ret ?_ | refine g_in_ret ?_ | refine g_then_exit ?_ | refine g_in_exit rfl ?_ | refine g_in_exit_ne (by decide) ?_ | refine g_seq ?_ | refine g_region ?_ | refine g_block ?_ | refine g_ret ?_ | refine g_return_n ?_ | refine g_exit ?_ | refine g_skip ?_)
  refine o_assign ?_
  first | refine g_endt ?_ | refine g_end ?_
  repeat (first | refine g_endt ?_ | refine g_end ?_ | refine g_then ?_ | refine g_in_normal ?_ | refine g_then_ret ?_ | refine g_in_ret ?_ | refine g_then_exit ?_ | refine g_in_exit rfl ?_ | refine g_in_exit_ne (by decide) ?_ | refine g_seq ?_ | refine g_region ?_ | refine g_block ?_ | refine g_ret ?_ | refine g_return_n ?_ | refine g_exit ?_ | refine g_skip ?_)
  refine o_move ?_
  refine o_len rfl rfl ?_
  refine o_move ?_
  refine o_len rfl rfl ?_
  refine o_neq rfl rfl ?_
  first | refine g_endt ?_ | refine g_end ?_
  first | refine g_seq (g_cond_f rfl (by simp) ?_) | refine g_cond_f rfl (by simp) ?_
  repeat (first | refine g_endt ?_ | refine g_end ?_ | refine g_then ?_ | refine g_in_normal ?_ | refine g_then_ret ?_ | refine g_in_ret ?_ | refine g_then_exit ?_ | refine g_in_exit rfl ?_ | refine g_in_exit_ne (by decide) ?_ | refine g_seq ?_ | refine g_region ?_ | refine g_block ?_ | refine g_ret ?_ | refine g_return_n ?_ | refine g_exit ?_ | refine g_skip ?_)
  refine o_assign ?_
  first | refine g_endt ?_ | refine g_end ?_
  repeat (first | refine g_endt ?_ | refine g_end ?_ | refine g_then ?_ | refine g_in_normal ?_ | refine g_then_ret ?_ | refine g_in_ret ?_ | refine g_then_exit ?_ | refine g_in_exit rfl ?_ | refine g_in_exit_ne (by decide) ?_ | refine g_seq ?_ | refine g_region ?_ | refine g_block ?_ | refine g_ret ?_ | refine g_return_n ?_ | refine g_exit ?_ | refine g_skip ?_)
  refine g_loop (σ := {i : Nat // i ≤ ys.length}) (S := fun i => [(0, .slice A len cap), (1, .slice B len cap'), (5, .int .i64 ((i.1 : Nat) : Int))])
    (H := fun i => [psl encI 1 A ys, psl encI 1 B ys]) (μ := fun i => ys.length - i.1) (s0 := ⟨0, Nat.zero_le _⟩) (Sat.mem ⟨rfl, rfl, rfl, trivial⟩) ?_
  rintro ⟨i, hi⟩ ρ'
  dsimp only
  repeat (first | refine g_endt ?_ | refine g_end ?_ | refine g_then ?_ | refine g_in_normal ?_ | refine g_then_ret ?_ | refine g_in_ret ?_ | refine g_then_exit ?_ | refine g_in_exit rfl ?_ | refine g_in_exit_ne (by decide) ?_ | refine g_seq ?_ | refine g_region ?_ | refine g_block ?_ | refine g_ret ?_ | refine g_return_n ?_ | refine g_exit ?_ | refine g_skip ?_)
  refine o_move ?_
  refine o_move ?_
  refine o_len rfl rfl ?_
  refine o_lss rfl rfl ?_
  first | refine g_endt ?_ | refine g_end ?_
  by_cases h : i < len
  · first | refine g_seq (g_cond_t rfl (by simpa using h) ?_) | refine g_cond_t rfl (by simpa using h) ?_
    have hi' : i < ys.length := by omega
    have hz : ys[i]? = some ys[i] := List.getElem?_eq_getElem hi'
    repeat (first | refine g_endt ?_ | refine g_end ?_ | refine g_then ?_ | refine g_in_normal ?_ | refine g_then_ret ?_ | refine g_in_ret ?_ | refine g_then_exit ?_ | refine g_in_exit rfl ?_ | refine g_in_exit_ne (by decide) ?_ | refine g_seq ?_ | refine g_region ?_ | refine g_block ?_ | refine g_ret ?_ | refine g_return_n ?_ | refine g_exit ?_ | refine g_skip ?_)
    refine g_draw [] [0,1,2,3,4,5,6,7,8] [psl encI 1 A ys, psl encI 1 B ys] mixed rfl ?_
    refine ob_q rfl rfl ⟨_, fun X Q h => o_move (g_end (h _ _ ⟨rfl, rfl⟩)), ?_⟩
    refine ob_q rfl rfl ⟨_, fun X Q h => o_move (g_end (h _ _ ⟨rfl, rfl⟩)), ?_⟩
    refine ob_q rfl rfl ⟨_, fun X Q h => o_indexR (ys := ys) rfl rfl rfl hi' hl rfl (g_end (h _ _ ⟨rfl, rfl⟩)), ?_⟩
    refine ob_q rfl rfl ⟨_, fun X Q h => o_loadE0 (ys := ys) (v := .int .i64 ys[i]) rfl hz rfl (g_end (h _ _ ⟨rfl, rfl⟩)), ?_⟩
    refine ob_q rfl rfl ⟨_, fun X Q h => o_move (g_end (h _ _ ⟨rfl, rfl⟩)), ?_⟩
    refine ob_q rfl rfl ⟨_, fun X Q h => o_move (g_end (h _ _ ⟨rfl, rfl⟩)), ?_⟩
    refine ob_q rfl rfl ⟨_, fun X Q h => o_indexR (ys := ys) rfl rfl rfl hi' hl rfl (g_end (h _ _ ⟨rfl, rfl⟩)), ?_⟩
    refine ob_q rfl rfl ⟨_, fun X Q h => o_loadE0 (ys := ys) (v := .int .i64 ys[i]) rfl hz rfl (g_end (h _ _ ⟨rfl, rfl⟩)), ?_⟩
    refine ob_q rfl rfl ⟨_, fun X Q h => o_neq rfl rfl (g_end (h _ _ ⟨rfl, rfl⟩)), ?_⟩
    refine ob_nil ?_
    first | refine g_seq (g_cond_f rfl (by simp) ?_) | refine g_cond_f rfl (by simp) ?_
    repeat (first | refine g_endt ?_ | refine g_end ?_ | refine g_then ?_ | refine g_in_normal ?_ | refine g_then_ret ?_ | refine g_in_ret ?_ | refine g_then_exit ?_ | refine g_in_exit rfl ?_ | refine g_in_exit_ne (by decide) ?_ | refine g_seq ?_ | refine g_region ?_ | refine g_block ?_ | refine g_ret ?_ | refine g_return_n ?_ | refine g_exit ?_ | refine g_skip ?_)
    refine o_move ?_
    refine o_add rfl rfl rfl (by omega) (by omega) ?_
    refine o_assign ?_
    first | refine g_endt ?_ | refine g_end ?_
    repeat (first | refine g_endt ?_ | refine g_end ?_ | refine g_then ?_ | refine g_in_normal ?_ | refine g_then_ret ?_ | refine g_in_ret ?_ | refine g_then_exit ?_ | refine g_in_exit rfl ?_ | refine g_in_exit_ne (by decide) ?_ | refine g_seq ?_ | refine g_region ?_ | refine g_block ?_ | refine g_ret ?_ | refine g_return_n ?_ | refine g_exit ?_ | refine g_skip ?_)
    exact g_meets ⟨i + 1, hi'⟩ (by show ys.length - (i + 1) < ys.length - i; omega) (Sat.mem ⟨rfl, rfl, rfl, trivial⟩)
  · first | refine g_seq (g_cond_f rfl (by simpa using h) ?_) | refine g_cond_f rfl (by simpa using h) ?_
    repeat (first | refine g_endt ?_ | refine g_end ?_ | refine g_then ?_ | refine g_in_normal ?_ | refine g_then_ret ?_ | refine g_in_ret ?_ | refine g_then_exit ?_ | refine g_in_exit rfl ?_ | refine g_in_exit_ne (by decide) ?_ | refine g_seq ?_ | refine g_region ?_ | refine g_block ?_ | refine g_ret ?_ | refine g_return_n ?_ | refine g_exit ?_ | refine g_skip ?_)
    refine o_assign ?_
    first | refine g_endt ?_ | refine g_end ?_
    repeat (first | refine g_endt ?_ | refine g_end ?_ | refine g_then ?_ | refine g_in_normal ?_ | refine g_then_ret ?_ | refine g_in_ret ?_ | refine g_then_exit ?_ | refine g_in_exit rfl ?_ | refine g_in_exit_ne (by decide) ?_ | refine g_seq ?_ | refine g_region ?_ | refine g_block ?_ | refine g_ret ?_ | refine g_return_n ?_ | refine g_exit ?_ | refine g_skip ?_)
    exact ret1 rfl (resT rfl) ⟨rfl, rfl⟩
end Go.Proofs.Ythledhcealmkbaa
/- Lists copied, lists compared with themselves, the reference's support. -/
namespace Go.Proofs.Ythledhcealmkbaa
open Go Go.Sl
attribute [local irreducible] Code.wpIn roundPost bodyPostM runL Ret Meets Begin

theorem CopyInt_spec (A : Option Addr) (len cap : Nat) (ys : List Int) (hl : ys.length = len) (hm : len ≤ 1000000) : Ctr Try.prog 13 [.slice A len cap] [psl encI 1 A ys]
    (fun v M => ∃ S c, v = .slice S len c ∧ M = [osl 3 encI 1 S c ys]) := by
  refine spec_of Try.func13 rfl Try.ntmps13 rfl fun w0 F => ?_
  repeat (first | refine g_endt ?_ | refine g_end ?_ | refine g_then ?_ | refine g_in_normal ?_ | refine g_then_ret ?_ | refine g_in_ret ?_ | refine g_then_exit ?_ | refine g_in_exit rfl ?_ | refine g_in_exit_ne (by decide) ?_ | refine g_seq ?_ | refine g_region ?_ | refine g_block ?_ | refine g_ret ?_ | refine g_return_n ?_ | refine g_exit ?_ | refine g_skip ?_)
  refine o_assign ?_
  first | refine g_endt ?_ | refine g_end ?_
  repeat (first | refine g_endt ?_ | refine g_end ?_ | refine g_then ?_ | refine g_in_normal ?_ | refine g_then_ret ?_ | refine g_in_ret ?_ | refine g_then_exit ?_ | refine g_in_exit rfl ?_ | refine g_in_exit_ne (by decide) ?_ | refine g_seq ?_ | refine g_region ?_ | refine g_block ?_ | refine g_ret ?_ | refine g_return_n ?_ | refine g_exit ?_ | refine g_skip ?_)
  refine o_move ?_
  refine G.nil_slice 3 encI 1 ?_
  refine o_append (xs := []) (ys := ys) rfl rfl rfl rfl hl (fun _ => .inr trivial) (by simp [maxLen]; omega) (by simp; omega) fun S c => ?_
  change G _ _ [osl 3 encI 1 S c ys, psl encI 1 A ys] _
  refine o_assign ?_
  first | refine g_endt ?_ | refine g_end ?_
  repeat (first | refine g_endt ?_ | refine g_end ?_ | refine g_then ?_ | refine g_in_normal ?_ | refine g_then_ret ?_ | refine g_in_ret ?_ | refine g_then_exit ?_ | refine g_in_exit rfl ?_ | refine g_in_exit_ne (by decide) ?_ | refine g_seq ?_ | refine g_region ?_ | refine g_block ?_ | refine g_ret ?_ | refine g_return_n ?_ | refine g_exit ?_ | refine g_skip ?_)
  exact ret1 rfl (resT (v := .slice S (0 + ys.length) c) rfl) ⟨S, c, by rw [Nat.zero_add, hl], rfl⟩
theorem CopyElem_spec (A : Option Addr) (len cap : Nat) (ys : List ElemD) (hl : ys.length = len) (hm : len ≤ 1000000) : Ctr Try.prog 12 [.slice A len cap] [psl encE 12 A ys]
    (fun v M => ∃ S c, v = .slice S len c ∧ M = [osl 35 encE 12 S c ys]) := by
  refine spec_of Try.func12 rfl Try.ntmps12 rfl fun w0 F => ?_
  repeat (first | refine g_endt ?_ | refine g_end ?_ | refine g_then ?_ | refine g_in_normal ?_ | refine g_then_ret ?_ | refine g_in_ret ?_ | refine g_then_exit ?_ | refine g_in_exit rfl ?_ | refine g_in_exit_ne (by decide) ?_ | refine g_seq ?_ | refine g_region ?_ | refine g_block ?_ | refine g_ret ?_ | refine g_return_n ?_ | refine g_exit ?_ | refine g_skip ?_)
  refine o_assign ?_
  first | refine g_endt ?_ | refine g_end ?_
  repeat (first | refine g_endt ?_ | refine g_end ?_ | refine g_then ?_ | refine g_in_normal ?_ | refine g_then_ret ?_ | refine g_in_ret ?_ | refine g_then_exit ?_ | refine g_in_exit rfl ?_ | refine g_in_exit_ne (by decide) ?_ | refine g_seq ?_ | refine g_region ?_ | refine g_block ?_ | refine g_ret ?_ | refine g_return_n ?_ | refine g_exit ?_ | refine g_skip ?_)
  refine o_move ?_
  refine G.nil_slice 35 encE 12 ?_
  refine o_append (xs := []) (ys := ys) rfl rfl rfl rfl hl (fun _ => .inr trivial) (by simp [maxLen]; omega) (by simp; omega) fun S c => ?_
  change G _ _ [osl 35 encE 12 S c ys, psl encE 12 A ys] _
  refine o_assign ?_
  first | refine g_endt ?_ | refine g_end ?_
  repeat (first | refine g_endt ?_ | refine g_end ?_ | refine g_then ?_ | refine g_in_normal ?_ | refine g_then_ret ?_ | refine g_in_ret ?_ | refine g_then_exit ?_ | refine g_in_exit rfl ?_ | refine g_in_exit_ne (by decide) ?_ | refine g_seq ?_ | refine g_region ?_ | refine g_block ?_ | refine g_ret ?_ | refine g_return_n ?_ | refine g_exit ?_ | refine g_skip ?_)
  exact ret1 rfl (resT (v := .slice S (0 + ys.length) c) rfl) ⟨S, c, by rw [Nat.zero_add, hl], rfl⟩
theorem ElemD.beq_self (e : ElemD) : e.beq e = true := (ElemD.beq_iff e e).2 rfl
theorem Elems_spec (A B : Option Addr) (len cap cap' : Nat) (ys : List ElemD) (hl : ys.length = len) (hm : len ≤ 9223372036854775807) : Ctr Try.prog 16 [.slice A len cap, .slice B len cap'] [psl encE 12 A ys, psl encE 12 B ys]
    (fun v M => v = .bool true ∧ M = []) := by
  refine spec_of Try.func16 rfl Try.ntmps16 rfl fun w0 F => ?_
  repeat (first | refine g_endt ?_ | refine g_end ?_ | refine g_then ?_ | refine g_in_normal ?_ | refine g_then_ret ?_ | refine g_in_ret ?_ | refine g_then_exit ?_ | refine g_in_exit rfl ?_ | refine g_in_exit_ne (by decide) ?_ | refine g_seq ?_ | refine g_region ?_ | refine g_block ?_ | refine g_ret ?_ | refine g_return_n ?_ | refine g_exit ?_ | refine g_skip ?_)
  refine o_assign ?_
  first | refine g_endt ?_ | refine g_end ?_
  repeat (first | refine g_endt ?_ | refine g_end ?_ | refine g_then ?_ | refine g_in_normal ?_ | refine g_then_ret ?_ | refine g_in_ret ?_ | refine g_then_exit ?_ | refine g_in_exit rfl ?_ | refine g_in_exit_ne (by decide) ?_ | refine g_seq ?_ | refine g_region ?_ | refine g_block ?_ | refine g_ret ?_ | refine g_return_n ?_ | refine g_exit ?_ | refine g_skip ?_)
  refine o_move ?_
  refine o_len rfl rfl ?_
  refine o_move ?_
  refine o_len rfl rfl ?_
  refine o_neq rfl rfl ?_
  first | refine g_endt ?_ | refine g_end ?_
  first | refine g_seq (g_cond_f rfl (by simp) ?_) | refine g_cond_f rfl (by simp) ?_
  repeat (first | refine g_endt ?_ | refine g_end ?_ | refine g_then ?_ | refine g_in_normal ?_ | refine g_then_ret ?_ | refine g_in_ret ?_ | refine g_then_exit ?_ | refine g_in_exit rfl ?_ | refine g_in_exit_ne (by decide) ?_ | refine g_seq ?_ | refine g_region ?_ | refine g_block ?_ | refine g_ret ?_ | refine g_return_n ?_ | refine g_exit ?_ | refine g_skip ?_)
  refine o_assign ?_
  first | refine g_endt ?_ | refine g_end ?_
  repeat (first | refine g_endt ?_ | refine g_end ?_ | refine g_then ?_ | refine g_in_normal ?_ | refine g_then_ret ?_ | refine g_in_ret ?_ | refine g_then_exit ?_ | refine g_in_exit rfl ?_ | refine g_in_exit_ne (by decide) ?_ | refine g_seq ?_ | refine g_region ?_ | refine g_block ?_ | refine g_ret ?_ | refine g_return_n ?_ | refine g_exit ?_ | refine g_skip ?_)
  refine g_loop (σ := {i : Nat // i ≤ ys.length}) (S := fun i => [(0, .slice A len cap), (1, .slice B len cap'), (5, .int .i64 ((i.1 : Nat) : Int))])
    (H := fun i => [psl encE 12 A ys, psl encE 12 B ys]) (μ := fun i => ys.length - i.1) (s0 := ⟨0, Nat.zero_le _⟩) (Sat.mem ⟨rfl, rfl, rfl, trivial⟩) ?_
  rintro ⟨i, hi⟩ ρ'
  dsimp only
  repeat (first | refine g_endt ?_ | refine g_end ?_ | refine g_then ?_ | refine g_in_normal ?_ | refine g_then_ret ?_ | refine g_in_ret ?_ | refine g_then_exit ?_ | refine g_in_exit rfl ?_ | refine g_in_exit_ne (by decide) ?_ | refine g_seq ?_ | refine g_region ?_ | refine g_block ?_ | refine g_ret ?_ | refine g_return_n ?_ | refine g_exit ?_ | refine g_skip ?_)
  refine o_move ?_
  refine o_move ?_
  refine o_len rfl rfl ?_
  refine o_lss rfl rfl ?_
  first | refine g_endt ?_ | refine g_end ?_
  by_cases h : i < len
  · first | refine g_seq (g_cond_t rfl (by simpa using h) ?_) | refine g_cond_t rfl (by simpa using h) ?_
    have hi' : i < ys.length := by omega
    obtain ⟨e, hz⟩ : ∃ e, ys[i]? = some e := ⟨_, List.getElem?_eq_getElem hi'⟩
    repeat (first | refine g_endt ?_ | refine g_end ?_ | refine g_then ?_ | refine g_in_normal ?_ | refine g_then_ret ?_ | refine g_in_ret ?_ | refine g_then_exit ?_ | refine g_in_exit rfl ?_ | refine g_in_exit_ne (by decide) ?_ | refine g_seq ?_ | refine g_region ?_ | refine g_block ?_ | refine g_ret ?_ | refine g_return_n ?_ | refine g_exit ?_ | refine g_skip ?_)
    refine g_draw [] [0,1,2,3,4,5,6,7,8] [psl encE 12 A ys, psl encE 12 B ys] mixed rfl ?_
    refine ob_q rfl rfl ⟨_, fun X Q h => o_move (g_end (h _ _ ⟨rfl, rfl⟩)), ?_⟩
    refine ob_q rfl rfl ⟨_, fun X Q h => o_move (g_end (h _ _ ⟨rfl, rfl⟩)), ?_⟩
    refine ob_q rfl rfl ⟨_, fun X Q h => o_indexR (ys := ys) rfl rfl rfl hi' hl rfl (g_end (h _ _ ⟨rfl, rfl⟩)), ?_⟩
    refine ob_q rfl rfl ⟨_, fun X Q h => o_loadE (ys := ys) rfl rfl hz (g_end (h _ _ ⟨rfl, rfl⟩)), ?_⟩
    refine ob_q rfl rfl ⟨_, fun X Q h => o_move (g_end (h _ _ ⟨rfl, rfl⟩)), ?_⟩
    refine ob_q rfl rfl ⟨_, fun X Q h => o_move (g_end (h _ _ ⟨rfl, rfl⟩)), ?_⟩
    refine ob_q rfl rfl ⟨_, fun X Q h => o_indexR (ys := ys) rfl rfl rfl hi' hl rfl (g_end (h _ _ ⟨rfl, rfl⟩)), ?_⟩
    refine ob_q rfl rfl ⟨_, fun X Q h => o_loadE (ys := ys) rfl rfl hz (g_end (h _ _ ⟨rfl, rfl⟩)), ?_⟩
    refine ob_q rfl rfl ⟨_, fun X Q h => o_neqty rfl rfl (eq_elem e e) (g_end (h _ _ ⟨rfl, rfl⟩)), ?_⟩
    refine ob_nil ?_
    first | refine g_seq (g_cond_f rfl (by simp [ElemD.beq_self]) ?_) | refine g_cond_f rfl (by simp [ElemD.beq_self]) ?_
    repeat (first | refine g_endt ?_ | refine g_end ?_ | refine g_then ?_ | refine g_in_normal ?_ | refine g_then_ret ?_ | refine g_in_ret ?_ | refine g_then_exit ?_ | refine g_in_exit rfl ?_ | refine g_in_exit_ne (by decide) ?_ | refine g_seq ?_ | refine g_region ?_ | refine g_block ?_ | refine g_ret ?_ | refine g_return_n ?_ | refine g_exit ?_ | refine g_skip ?_)
    refine o_move ?_
    refine o_add rfl rfl rfl (by omega) (by omega) ?_
    refine o_assign ?_
    first | refine g_endt ?_ | refine g_end ?_
    repeat (first | refine g_endt ?_ | refine g_end ?_ | refine g_then ?_ | refine g_in_normal ?_ | refine g_then_ret ?_ | refine g_in_ret ?_ | refine g_then_exit ?_ | refine g_in_exit rfl ?_ | refine g_in_exit_ne (by decide) ?_ | refine g_seq ?_ | refine g_region ?_ | refine g_block ?_ | refine g_ret ?_ | refine g_return_n ?_ | refine g_exit ?_ | refine g_skip ?_)
    exact g_meets ⟨i + 1, hi'⟩ (by show ys.length - (i + 1) < ys.length - i; omega) (Sat.mem ⟨rfl, rfl, rfl, trivial⟩)
  · first | refine g_seq (g_cond_f rfl (by simpa using h) ?_) | refine g_cond_f rfl (by simpa using h) ?_
    repeat (first | refine g_endt ?_ | refine g_end ?_ | refine g_then ?_ | refine g_in_normal ?_ | refine g_then_ret ?_ | refine g_in_ret ?_ | refine g_then_exit ?_ | refine g_in_exit rfl ?_ | refine g_in_exit_ne (by decide) ?_ | refine g_seq ?_ | refine g_region ?_ | refine g_block ?_ | refine g_ret ?_ | refine g_return_n ?_ | refine g_exit ?_ | refine g_skip ?_)
    refine o_assign ?_
    first | refine g_endt ?_ | refine g_end ?_
    repeat (first | refine g_endt ?_ | refine g_end ?_ | refine g_then ?_ | refine g_in_normal ?_ | refine g_then_ret ?_ | refine g_in_ret ?_ | refine g_then_exit ?_ | refine g_in_exit rfl ?_ | refine g_in_exit_ne (by decide) ?_ | refine g_seq ?_ | refine g_region ?_ | refine g_block ?_ | refine g_ret ?_ | refine g_return_n ?_ | refine g_exit ?_ | refine g_skip ?_)
    exact ret1 rfl (resT rfl) ⟨rfl, rfl⟩
theorem Oref_spec (A B : Option Addr) (la ca lb cb : Nat) (xs : List ElemD) (ns : List Int) (hx : xs.length = la) (hn : ns.length = lb) (ha : la ≤ 9223372036854775807) (hb : lb ≤ 9223372036854775807) :
    Ctr Try.prog 15 [.slice A la ca, .slice B lb cb] [psl encE 12 A xs, psl encI 1 B ns] (fun v M => v = .bool (OD xs ns) ∧ M = []) := by
  refine spec_of Try.func15 rfl Try.ntmps15 rfl fun w0 F => ?_
  repeat (first | refine g_endt ?_ | refine g_end ?_ | refine g_then ?_ | refine g_in_normal ?_ | refine g_then_ret ?_ | refine g_in_ret ?_ | refine g_then_exit ?_ | refine g_in_exit rfl ?_ | refine g_in_exit_ne (by decide) ?_ | refine g_seq ?_ | refine g_region ?_ | refine g_block ?_ | refine g_ret ?_ | refine g_return_n ?_ | refine g_exit ?_ | refine g_skip ?_)
  refine o_assign ?_
  first | refine g_endt ?_ | refine g_end ?_
  repeat (first | refine g_endt ?_ | refine g_end ?_ | refine g_then ?_ | refine g_in_normal ?_ | refine g_then_ret ?_ | refine g_in_ret ?_ | refine g_then_exit ?_ | refine g_in_exit rfl ?_ | refine g_in_exit_ne (by decide) ?_ | refine g_seq ?_ | refine g_region ?_ | refine g_block ?_ | refine g_ret ?_ | refine g_return_n ?_ | refine g_exit ?_ | refine g_skip ?_)
  refine o_assign ?_
  first | refine g_endt ?_ | refine g_end ?_
  repeat (first | refine g_endt ?_ | refine g_end ?_ | refine g_then ?_ | refine g_in_normal ?_ | refine g_then_ret ?_ | refine g_in_ret ?_ | refine g_then_exit ?_ | refine g_in_exit rfl ?_ | refine g_in_exit_ne (by decide) ?_ | refine g_seq ?_ | refine g_region ?_ | refine g_block ?_ | refine g_ret ?_ | refine g_return_n ?_ | refine g_exit ?_ | refine g_skip ?_)
  refine g_loop (σ := {i : Nat // i ≤ xs.length ∧ ∀ j, j < i → Oat xs ns j = false}) (S := fun i => [(0, .slice A la ca), (1, .slice B lb cb), (5, .int .i64 ((i.1 : Nat) : Int))])
    (H := fun _ => [psl encE 12 A xs, psl encI 1 B ns]) (μ := fun i => xs.length - i.1) (s0 := ⟨0, Nat.zero_le _, fun j h => absurd h (Nat.not_lt_zero j)⟩) (Sat.mem ⟨rfl, rfl, rfl, trivial⟩) ?_
  rintro ⟨i, hi, hj⟩ ρ'
  dsimp only
  repeat (first | refine g_endt ?_ | refine g_end ?_ | refine g_then ?_ | refine g_in_normal ?_ | refine g_then_ret ?_ | refine g_in_ret ?_ | refine g_then_exit ?_ | refine g_in_exit rfl ?_ | refine g_in_exit_ne (by decide) ?_ | refine g_seq ?_ | refine g_region ?_ | refine g_block ?_ | refine g_ret ?_ | refine g_return_n ?_ | refine g_exit ?_ | refine g_skip ?_)
  refine o_move ?_
  refine o_move ?_
  refine o_len rfl rfl ?_
  refine o_lss rfl rfl ?_
  first | refine g_endt ?_ | refine g_end ?_
  by_cases h : i < la
  · first | refine g_seq (g_cond_t rfl (by simpa using h) ?_) | refine g_cond_t rfl (by simpa using h) ?_
    have hi' : i < xs.length := by omega
    obtain ⟨e, hz⟩ : ∃ e, xs[i]? = some e := ⟨_, List.getElem?_eq_getElem hi'⟩
    repeat (first | refine g_endt ?_ | refine g_end ?_ | refine g_then ?_ | refine g_in_normal ?_ | refine g_then_ret ?_ | refine g_in_ret ?_ | refine g_then_exit ?_ | refine g_in_exit rfl ?_ | refine g_in_exit_ne (by decide) ?_ | refine g_seq ?_ | refine g_region ?_ | refine g_block ?_ | refine g_ret ?_ | refine g_return_n ?_ | refine g_exit ?_ | refine g_skip ?_)
    refine o_assign ?_
    first | refine g_endt ?_ | refine g_end ?_
    repeat (first | refine g_endt ?_ | refine g_end ?_ | refine g_then ?_ | refine g_in_normal ?_ | refine g_then_ret ?_ | refine g_in_ret ?_ | refine g_then_exit ?_ | refine g_in_exit rfl ?_ | refine g_in_exit_ne (by decide) ?_ | refine g_seq ?_ | refine g_region ?_ | refine g_block ?_ | refine g_ret ?_ | refine g_return_n ?_ | refine g_exit ?_ | refine g_skip ?_)
    refine o_move ?_
    refine o_move ?_
    refine o_len rfl rfl ?_
    refine o_lss rfl rfl ?_
    first | refine g_endt ?_ | refine g_end ?_
    refine g_cutk (σ := Unit) (ds' := []) (S := fun _ => [(0, .slice A la ca), (1, .slice B lb cb), (5, .int .i64 (i : Int)), (6, .int .i64 (lev ns i))])
      (H := fun _ => [psl encE 12 A xs, psl encI 1 B ns]) (ok := fun _ => True) ?_ ?_
    · by_cases hl : i < lb
      · first | refine g_seq (g_cond_t rfl (by simpa using hl) ?_) | refine g_cond_t rfl (by simpa using hl) ?_
        have hl' : i < ns.length := by omega
        obtain ⟨m, hm⟩ : ∃ m, ns[i]? = some m := ⟨_, List.getElem?_eq_getElem hl'⟩
        have e1 : lev ns i = m := by simp [lev, hm]
        repeat (first | refine g_endt ?_ | refine g_end ?_ | refine g_then ?_ | refine g_in_normal ?_ | refine g_then_ret ?_ | refine g_in_ret ?_ | refine g_then_exit ?_ | refine g_in_exit rfl ?_ | refine g_in_exit_ne (by decide) ?_ | refine g_seq ?_ | refine g_region ?_ | refine g_block ?_ | refine g_ret ?_ | refine g_return_n ?_ | refine g_exit ?_ | refine g_skip ?_)
        refine o_move ?_
        refine o_move ?_
        refine o_indexR rfl rfl rfl hl' hn rfl ?_
        refine o_loadE0 (enc := encI) (v := .int .i64 m) rfl hm rfl ?_
        refine o_assign ?_
        first | refine g_endt ?_ | refine g_end ?_
        repeat (first | refine g_endt ?_ | refine g_end ?_ | refine g_then ?_ | refine g_in_normal ?_ | refine g_then_ret ?_ | refine g_in_ret ?_ | refine g_then_exit ?_ | refine g_in_exit rfl ?_ | refine g_in_exit_ne (by decide) ?_ | refine g_seq ?_ | refine g_region ?_ | refine g_block ?_ | refine g_ret ?_ | refine g_return_n ?_ | refine g_exit ?_ | refine g_skip ?_)
        exact g_meets () trivial (Sat.mem ⟨rfl, rfl, rfl, by rw [e1]; rfl, trivial⟩)
      · first | refine g_seq (g_cond_f rfl (by simpa using hl) ?_) | refine g_cond_f rfl (by simpa using hl) ?_
        have e1 : lev ns i = 0 := by simp [lev, List.getElem?_eq_none (show ns.length ≤ i by omega)]
        repeat (first | refine g_endt ?_ | refine g_end ?_ | refine g_then ?_ | refine g_in_normal ?_ | refine g_then_ret ?_ | refine g_in_ret ?_ | refine g_then_exit ?_ | refine g_in_exit rfl ?_ | refine g_in_exit_ne (by decide) ?_ | refine g_seq ?_ | refine g_region ?_ | refine g_block ?_ | refine g_ret ?_ | refine g_return_n ?_ | refine g_exit ?_ | refine g_skip ?_)
        exact g_meets () trivial (Sat.mem ⟨rfl, rfl, rfl, by rw [e1]; rfl, trivial⟩)
    · intro _ ρ'' _
      repeat (first | refine g_endt ?_ | refine g_end ?_ | refine g_then ?_ | refine g_in_normal ?_ | refine g_then_ret ?_ | refine g_in_ret ?_ | refine g_then_exit ?_ | refine g_in_exit rfl ?_ | refine g_in_exit_ne (by decide) ?_ | refine g_seq ?_ | refine g_region ?_ | refine g_block ?_ | refine g_ret ?_ | refine g_return_n ?_ | refine g_exit ?_ | refine g_skip ?_)
      refine o_move ?_
      refine o_move ?_
      refine o_indexR rfl rfl rfl hi' hx rfl ?_
      refine o_loadE (enc := encE) rfl rfl hz ?_
      refine o_call (Chosenref_spec e) rfl rfl ?_
      rintro _ _ ⟨rfl, rfl⟩
      cases hc : e.chosen
      · skip
        refine o_move ?_
        refine o_unwanted rfl rfl rfl rfl rfl ?_
        refine o_unwanted rfl rfl rfl rfl rfl ?_
        refine o_unwanted rfl rfl rfl rfl rfl ?_
        refine o_unwanted rfl rfl rfl rfl rfl ?_
        refine o_pick_f rfl rfl ?_
        refine g_endt ?_
        first | refine g_seq (g_cond_f rfl (rfl) ?_) | refine g_cond_f rfl (rfl) ?_
        repeat (first | refine g_endt ?_ | refine g_end ?_ | refine g_then ?_ | refine g_in_normal ?_ | refine g_then_ret ?_ | refine g_in_ret ?_ | refine g_then_exit ?_ | refine g_in_exit rfl ?_ | refine g_in_exit_ne (by decide) ?_ | refine g_seq ?_ | refine g_region ?_ | refine g_block ?_ | refine g_ret ?_ | refine g_return_n ?_ | refine g_exit ?_ | refine g_skip ?_)
        refine o_move ?_
        refine o_add rfl rfl rfl (by omega) (by omega) ?_
        refine o_assign ?_
        first | refine g_endt ?_ | refine g_end ?_
        repeat (first | refine g_endt ?_ | refine g_end ?_ | refine g_then ?_ | refine g_in_normal ?_ | refine g_then_ret ?_ | refine g_in_ret ?_ | refine g_then_exit ?_ | refine g_in_exit rfl ?_ | refine g_in_exit_ne (by decide) ?_ | refine g_seq ?_ | refine g_region ?_ | refine g_block ?_ | refine g_ret ?_ | refine g_return_n ?_ | refine g_exit ?_ | refine g_skip ?_)
        exact g_meets ⟨i + 1, hi', fun j hj' => (Nat.lt_succ_iff_lt_or_eq.1 hj').elim (hj j) (fun e => by subst e; simp [Oat, hz, hc])⟩ (by show xs.length - (i + 1) < xs.length - i; omega) (Sat.mem ⟨rfl, rfl, rfl, trivial⟩)
      · skip
        refine o_move ?_
        refine o_want rfl rfl rfl rfl rfl (o_move ?_)
        refine o_want rfl rfl rfl rfl rfl (o_move ?_)
        refine o_want rfl rfl rfl rfl rfl (o_callp (Levelref_spec B lb cb ns hn hb) rfl rfl ?_)
        rintro _ _ ⟨rfl, rfl⟩
        refine o_want rfl rfl rfl rfl rfl (o_eql rfl rfl ?_)
        refine o_pick_t rfl rfl ?_
        refine g_endt ?_
        by_cases hq : lev ns i = most ns
        · first | refine g_seq (g_cond_t rfl (by simpa using hq) ?_) | refine g_cond_t rfl (by simpa using hq) ?_
          repeat (first | refine g_endt ?_ | refine g_end ?_ | refine g_then ?_ | refine g_in_normal ?_ | refine g_then_ret ?_ | refine g_in_ret ?_ | refine g_then_exit ?_ | refine g_in_exit rfl ?_ | refine g_in_exit_ne (by decide) ?_ | refine g_seq ?_ | refine g_region ?_ | refine g_block ?_ | refine g_ret ?_ | refine g_return_n ?_ | refine g_exit ?_ | refine g_skip ?_)
          refine o_assign ?_
          first | refine g_endt ?_ | refine g_end ?_
          repeat (first | refine g_endt ?_ | refine g_end ?_ | refine g_then ?_ | refine g_in_normal ?_ | refine g_then_ret ?_ | refine g_in_ret ?_ | refine g_then_exit ?_ | refine g_in_exit rfl ?_ | refine g_in_exit_ne (by decide) ?_ | refine g_seq ?_ | refine g_region ?_ | refine g_block ?_ | refine g_ret ?_ | refine g_return_n ?_ | refine g_exit ?_ | refine g_skip ?_)
          exact ret1 rfl (resT (v := .bool true) rfl) ⟨by rw [OD_true hi' (by simp [Oat, hz, hc, hq])], rfl⟩
        · first | refine g_seq (g_cond_f rfl (by simpa using hq) ?_) | refine g_cond_f rfl (by simpa using hq) ?_
          repeat (first | refine g_endt ?_ | refine g_end ?_ | refine g_then ?_ | refine g_in_normal ?_ | refine g_then_ret ?_ | refine g_in_ret ?_ | refine g_then_exit ?_ | refine g_in_exit rfl ?_ | refine g_in_exit_ne (by decide) ?_ | refine g_seq ?_ | refine g_region ?_ | refine g_block ?_ | refine g_ret ?_ | refine g_return_n ?_ | refine g_exit ?_ | refine g_skip ?_)
          refine o_move ?_
          refine o_add rfl rfl rfl (by omega) (by omega) ?_
          refine o_assign ?_
          first | refine g_endt ?_ | refine g_end ?_
          repeat (first | refine g_endt ?_ | refine g_end ?_ | refine g_then ?_ | refine g_in_normal ?_ | refine g_then_ret ?_ | refine g_in_ret ?_ | refine g_then_exit ?_ | refine g_in_exit rfl ?_ | refine g_in_exit_ne (by decide) ?_ | refine g_seq ?_ | refine g_region ?_ | refine g_block ?_ | refine g_ret ?_ | refine g_return_n ?_ | refine g_exit ?_ | refine g_skip ?_)
          exact g_meets ⟨i + 1, hi', fun j hj' => (Nat.lt_succ_iff_lt_or_eq.1 hj').elim (hj j) (fun e => by subst e; simp [Oat, hz, hq])⟩ (by show xs.length - (i + 1) < xs.length - i; omega) (Sat.mem ⟨rfl, rfl, rfl, trivial⟩)
  · first | refine g_seq (g_cond_f rfl (by simpa using h) ?_) | refine g_cond_f rfl (by simpa using h) ?_
    repeat (first | refine g_endt ?_ | refine g_end ?_ | refine g_then ?_ | refine g_in_normal ?_ | refine g_then_ret ?_ | refine g_in_ret ?_ | refine g_then_exit ?_ | refine g_in_exit rfl ?_ | refine g_in_exit_ne (by decide) ?_ | refine g_seq ?_ | refine g_region ?_ | refine g_block ?_ | refine g_ret ?_ | refine g_return_n ?_ | refine g_exit ?_ | refine g_skip ?_)
    refine o_assign ?_
    first | refine g_endt ?_ | refine g_end ?_
    repeat (first | refine g_endt ?_ | refine g_end ?_ | refine g_then ?_ | refine g_in_normal ?_ | refine g_then_ret ?_ | refine g_in_ret ?_ | refine g_then_exit ?_ | refine g_in_exit rfl ?_ | refine g_in_exit_ne (by decide) ?_ | refine g_seq ?_ | refine g_region ?_ | refine g_block ?_ | refine g_ret ?_ | refine g_return_n ?_ | refine g_exit ?_ | refine g_skip ?_)
    exact ret1 rfl (resT (v := .bool false) rfl) ⟨by rw [OD_false (fun j hj' => hj j (by omega))], rfl⟩
end Go.Proofs.Ythledhcealmkbaa
/- Numbers within bounds; one element more. -/
namespace Go.Proofs.Ythledhcealmkbaa
open Go Go.Sl
attribute [local irreducible] Code.wpIn roundPost bodyPostM runL Ret Meets Begin

theorem within_tmod (a : Int) (n : Nat) (hn : 0 < n) : (if a.tmod n < 0 then a.tmod n + n else a.tmod n) = ((a % (n : Int)).toNat : Int) ∧ -(n : Int) < a.tmod n ∧ a.tmod n < n := by
  have h0 : 0 ≤ a % (n : Int) := Int.emod_nonneg _ (by omega)
  have h1 : a % (n : Int) < n := Int.emod_lt_of_pos _ (by omega)
  rw [Int.toNat_of_nonneg h0, Int.tmod_eq_emod]
  by_cases hc : 0 ≤ a ∨ (n : Int) ∣ a
  · rw [if_pos hc]
    exact ⟨by rw [if_neg (by omega)]; omega, by omega, by omega⟩
  · rw [if_neg hc]
    simp only [Int.natAbs_natCast]
    have h3 : a % (n : Int) ≠ 0 := fun e => hc (.inr (Int.dvd_of_emod_eq_zero e))
    exact ⟨by rw [if_pos (by omega)]; omega, by omega, by omega⟩
theorem Within_spec (a : Int) (n : Nat) (hn : 0 < n) (hn2 : n ≤ 1000000000) : Ctr Try.prog 21 [.int .i64 a, .int .i64 (n : Int)] [] (fun v M => v = .int .i64 ((a % (n : Int)).toNat : Int) ∧ M = []) := by
  obtain ⟨h1, h2, h3⟩ := within_tmod a n hn
  refine spec_of Try.func21 rfl Try.ntmps21 rfl fun w0 F => ?_
  -- ponder/ponderkeep.Within
  repeat (first | refine g_endt ?_ | refine g_end ?_ | refine g_then ?_ | refine g_in_normal ?_ | refine g_then_ret ?_ | refine g_in_ret ?_ | refine g_then_exit ?_ | refine g_in_exit rfl ?_ | refine g_in_exit_ne (by decide) ?_ | refine g_seq ?_ | refine g_region ?_ | refine g_block ?_ | refine g_ret ?_ | refine g_return_n ?_ | refine g_exit ?_ | refine g_skip ?_)
  refine o_assign ?_
  first | refine g_endt ?_ | refine g_end ?_
  repeat (first | refine g_endt ?_ | refine g_end ?_ | refine g_then ?_ | refine g_in_normal ?_ | refine g_then_ret ?_ | refine g_in_ret ?_ | refine g_then_exit ?_ | refine g_in_exit rfl ?_ | refine g_in_exit_ne (by decide) ?_ | refine g_seq ?_ | refine g_region ?_ | refine g_block ?_ | refine g_ret ?_ | refine g_return_n ?_ | refine g_exit ?_ | refine g_skip ?_)
  refine o_move ?_
  refine o_lss rfl rfl ?_
  first | refine g_endt ?_ | refine g_end ?_
  first | refine g_seq (g_cond_f rfl (by simp; omega) ?_) | refine g_cond_f rfl (by simp; omega) ?_
  repeat (first | refine g_endt ?_ | refine g_end ?_ | refine g_then ?_ | refine g_in_normal ?_ | refine g_then_ret ?_ | refine g_in_ret ?_ | refine g_then_exit ?_ | refine g_in_exit rfl ?_ | refine g_in_exit_ne (by decide) ?_ | refine g_seq ?_ | refine g_region ?_ | refine g_block ?_ | refine g_ret ?_ | refine g_return_n ?_ | refine g_exit ?_ | refine g_skip ?_)
  refine o_move ?_
  refine o_move ?_
  refine o_rem rfl rfl (by omega) ?_
  refine o_assign ?_
  first | refine g_endt ?_ | refine g_end ?_
  generalize a.tmod n = t at h1 h2 h3 ⊢
  repeat (first | refine g_endt ?_ | refine g_end ?_ | refine g_then ?_ | refine g_in_normal ?_ | refine g_then_ret ?_ | refine g_in_ret ?_ | refine g_then_exit ?_ | refine g_in_exit rfl ?_ | refine g_in_exit_ne (by decide) ?_ | refine g_seq ?_ | refine g_region ?_ | refine g_block ?_ | refine g_ret ?_ | refine g_return_n ?_ | refine g_exit ?_ | refine g_skip ?_)
  refine o_move ?_
  refine o_lss rfl rfl ?_
  first | refine g_endt ?_ | refine g_end ?_
  by_cases h : t < 0
  · first | refine g_seq (g_cond_t rfl (by simpa using h) ?_) | refine g_cond_t rfl (by simpa using h) ?_
    rw [if_pos h] at h1
    repeat (first | refine g_endt ?_ | refine g_end ?_ | refine g_then ?_ | refine g_in_normal ?_ | refine g_then_ret ?_ | refine g_in_ret ?_ | refine g_then_exit ?_ | refine g_in_exit rfl ?_ | refine g_in_exit_ne (by decide) ?_ | refine g_seq ?_ | refine g_region ?_ | refine g_block ?_ | refine g_ret ?_ | refine g_return_n ?_ | refine g_exit ?_ | refine g_skip ?_)
    refine o_move ?_
    refine o_move ?_
    refine o_add (c := ((a % (n : Int)).toNat : Int)) rfl rfl h1 (by omega) (by omega) ?_
    refine o_assign ?_
    first | refine g_endt ?_ | refine g_end ?_
    repeat (first | refine g_endt ?_ | refine g_end ?_ | refine g_then ?_ | refine g_in_normal ?_ | refine g_then_ret ?_ | refine g_in_ret ?_ | refine g_then_exit ?_ | refine g_in_exit rfl ?_ | refine g_in_exit_ne (by decide) ?_ | refine g_seq ?_ | refine g_region ?_ | refine g_block ?_ | refine g_ret ?_ | refine g_return_n ?_ | refine g_exit ?_ | refine g_skip ?_)
    refine o_move ?_
    refine o_assign ?_
    first | refine g_endt ?_ | refine g_end ?_
    repeat (first | refine g_endt ?_ | refine g_end ?_ | refine g_then ?_ | refine g_in_normal ?_ | refine g_then_ret ?_ | refine g_in_ret ?_ | refine g_then_exit ?_ | refine g_in_exit rfl ?_ | refine g_in_exit_ne (by decide) ?_ | refine g_seq ?_ | refine g_region ?_ | refine g_block ?_ | refine g_ret ?_ | refine g_return_n ?_ | refine g_exit ?_ | refine g_skip ?_)
    exact ret1 rfl (resT rfl) ⟨rfl, rfl⟩
  · first | refine g_seq (g_cond_f rfl (by simpa using h) ?_) | refine g_cond_f rfl (by simpa using h) ?_
    rw [if_neg h] at h1
    repeat (first | refine g_endt ?_ | refine g_end ?_ | refine g_then ?_ | refine g_in_normal ?_ | refine g_then_ret ?_ | refine g_in_ret ?_ | refine g_then_exit ?_ | refine g_in_exit rfl ?_ | refine g_in_exit_ne (by decide) ?_ | refine g_seq ?_ | refine g_region ?_ | refine g_block ?_ | refine g_ret ?_ | refine g_return_n ?_ | refine g_exit ?_ | refine g_skip ?_)
    refine o_move ?_
    refine o_assign ?_
    first | refine g_endt ?_ | refine g_end ?_
    repeat (first | refine g_endt ?_ | refine g_end ?_ | refine g_then ?_ | refine g_in_normal ?_ | refine g_then_ret ?_ | refine g_in_ret ?_ | refine g_then_exit ?_ | refine g_in_exit rfl ?_ | refine g_in_exit_ne (by decide) ?_ | refine g_seq ?_ | refine g_region ?_ | refine g_block ?_ | refine g_ret ?_ | refine g_return_n ?_ | refine g_exit ?_ | refine g_skip ?_)
    rw [h1]
    exact ret1 rfl (resT rfl) ⟨rfl, rfl⟩
theorem OD_ext {xs ys : List ElemD} {ns ms : List Int} (hl : xs.length = ys.length) (h : ∀ j, j < xs.length → Oat xs ns j = Oat ys ms j) : OD xs ns = OD ys ms := by
  simp only [OD]
  rw [← hl, Bool.eq_iff_iff]
  simp only [List.any_eq_true, List.mem_range]
  exact ⟨fun ⟨j, hj, e⟩ => ⟨j, hj, (h j hj).symm.trans e⟩, fun ⟨j, hj, e⟩ => ⟨j, hj, (h j hj).trans e⟩⟩
theorem OD_snoc (xs : List ElemD) (ns : List Int) (e : ElemD) (t : Int) (hl : xs.length = ns.length) (hm : most (ns ++ [t]) = most ns) :
    OD (xs ++ [e]) (ns ++ [t]) = (OD xs ns || (e.chosen && decide (t = most ns))) := by
  have h1 : ∀ j, j < xs.length → Oat (xs ++ [e]) (ns ++ [t]) j = Oat xs ns j := by
    intro j hj
    have hj2 : j < ns.length := by omega
    simp only [Oat, lev, hm, List.getElem?_append_left hj, List.getElem?_append_left hj2]
    rfl
  have h2 : Oat (xs ++ [e]) (ns ++ [t]) xs.length = (e.chosen && decide (t = most ns)) := by
    simp only [Oat, lev, hm, List.getElem?_concat_length]
    rw [hl, List.getElem?_concat_length]
    rfl
  simp only [OD, List.length_append, List.length_singleton, List.range_succ, List.any_append, List.any_cons, List.any_nil, Bool.or_false, h2]
  rw [Bool.eq_iff_iff]
  simp only [Bool.or_eq_true, List.any_eq_true, List.mem_range]
  exact or_congr ⟨fun ⟨j, hj, e⟩ => ⟨j, hj, (h1 j hj).symm.trans e⟩, fun ⟨j, hj, e⟩ => ⟨j, hj, (h1 j hj).trans e⟩⟩ Iff.rfl
theorem one_le_most (ns : List Int) : 1 ≤ most ns := by
  have : ∀ (l : List Int) (a : Int), a ≤ l.foldl max a := by
    intro l
    induction l with
    | nil => exact fun a => Int.le_refl a
    | cons y l ih => exact fun a => Int.le_trans (Int.le_max_left a y) (ih (max a y))
  exact this ns 1
theorem most_top (ns : List Int) : most (ns ++ [most ns]) = most ns := by rw [most_snoc]; exact Int.max_self _
theorem most_zero (ns : List Int) : most (ns ++ [0]) = most ns := by
  have := one_le_most ns
  rw [most_snoc]; omega
def lowF (ns : List Int) : List Int := ns.map fun v => 1 + ((v % 5).toNat : Int)
end Go.Proofs.Ythledhcealmkbaa
/- Owned rows: stores into them, a shorter view of them, new ones; ordered sets as one assertion. Plain library, no program in sight. -/
namespace Go.Sl
open Go Go.Proofs Go.RowKit

section
variable {α : Type} {enc : α → List Value} {sz : Nat}
theorem flat_take [e : EncLen enc sz] : ∀ (ys : List α) (i : Nat), (ys.flatMap enc).take (i * sz) = (ys.take i).flatMap enc
  | [], i => by simp
  | y :: ys, 0 => by simp
  | y :: ys, i + 1 => by
    have h1 : (enc y).length = sz := e.len y
    have : (i + 1) * sz = (enc y).length + i * sz := by rw [h1, Nat.add_mul]; omega
    rw [List.flatMap_cons, this, List.take_length_add_append, flat_take ys i]
    simp
theorem flat_drop [e : EncLen enc sz] : ∀ (ys : List α) (i : Nat), (ys.flatMap enc).drop (i * sz) = (ys.drop i).flatMap enc
  | [], i => by simp
  | y :: ys, 0 => by simp
  | y :: ys, i + 1 => by
    have h1 : (enc y).length = sz := e.len y
    have : (i + 1) * sz = (enc y).length + i * sz := by rw [h1, Nat.add_mul]; omega
    rw [List.flatMap_cons, this, List.drop_length_add_append, flat_drop ys i]
    simp
theorem flat_set [e : EncLen enc sz] (ys : List α) (i : Nat) (z : α) (hi : i < ys.length) : (ys.set i z).flatMap enc = (ys.flatMap enc).take (i * sz) ++ enc z ++ (ys.flatMap enc).drop ((i + 1) * sz) := by
  rw [flat_take, flat_drop, List.set_eq_take_append_cons_drop, if_pos hi]
  simp [List.flatMap_append]
end

section
variable {w0 : World} {A : SProp} {L : List SProp} {ro : Option Nat} {P : Program} {Q : Exit → Act → World → Prop} {all : Array Oper} {os : List Oper} {n : Nat} {ρ : Nat → Value} {ds : List Nat}
variable {d : Option Tmp} {ty : TypeId} {pos : String} {af : Array Edge} {x y : Operand}
variable {α : Type} {enc : α → List Value} {sz : Nat} {xs : List α} {S : Option Addr}
/-- A store of a whole element into an owned row. -/
theorem o_storeE {t e : TypeId} {sz' c i : Nat} {v : Value} {z : α} {M : List SProp} (hx : ev n ρ x = padr S (i * sz)) (hy : ev n ρ y = v) [tk : Take1 L (osl e enc sz S c xs) M] [el : EncLen enc sz] [ts : TySz P t sz'] (hs : sz' = sz) (hv : v.cells.toList = enc z) (hi : i < xs.length)
    (h : G w0 A (osl e enc sz S c (xs.set i z) :: M) (fun w => runL ro P all Q os (act n (updo ρ d undef) ds) w)) :
    G w0 A L (fun w => runL ro P all Q ({ dst := d, op := .store t x y, type := ty, pos := pos, after := af, guard := none } :: os) (act n ρ ds) w) := by
  subst hs
  refine o_run rfl fun w hw hh => ?_
  refine ⟨fun _ _ => trivial, ?_⟩
  rw [Oper.semAt_eq _ _ _ (by intro c e; cases e), act_eval]
  have hh1 : holds (star (osl e enc sz' S c xs) (star A (sl M))) w := (hh.ent ((Ent.refl A).star (sl_perm tk.perm))).ent (Ent.swap _ _ _)
  have hopen : ∃ g cur, S = some ⟨g, 0, none⟩ ∧ (xs.length ≤ c ∧ c ≤ maxLen ∧ cur.size = c * sz' ∧ cur.toList.take (xs.length * sz') = xs.flatMap enc) ∧ holds (star (blk g (.cells cur e (0, 0))) (star A (sl M))) w := by
    obtain ⟨B, k, dd, l, m, k1, k2, d12, l1, l2, hx, hy⟩ := hh1
    rcases hx with ⟨_, rfl, _⟩ | ⟨g, cur, hA, hg, hr⟩
    · simp at hi
    · exact ⟨g, cur, hA, hr, B, k, dd, l, m, k1, k2, d12, l1, l2, hg, hy⟩
  obtain ⟨g, cur, rfl, ⟨h1, h2, h3, h4⟩, hh2⟩ := hopen
  have hbw : w.heap[g]? = some (.cells cur e (0, 0)) := (Sees.left (sees_blk g _)) w hh2
  have hvl : v.cells.toList.length = sz' := by rw [hv]; exact el.len z
  have hvs : v.cells.size = sz' := by rw [← Array.length_toList]; exact hvl
  have hle : i * sz' + sz' ≤ cur.size := by
    rw [h3]
    calc i * sz' + sz' = (i + 1) * sz' := by rw [Nat.add_mul]; omega
      _ ≤ c * sz' := Nat.mul_le_mul_right _ (by omega)
  have hst := run_storeCells_at (P := P) g (i * sz') e v.cells.toList 0 cur w hbw (by rw [hvl]; simpa using hle) (by rw [hv]; exact el.one z)
  have hpa : padr (some ⟨g, 0, none⟩) (i * sz') = .pointer (some ⟨g, i * sz', none⟩) := by rw [padr_some]; simp
  have hrun : (execOp (ev n ρ) { dst := d, op := .store t x y, type := ty, pos := pos, after := af, guard := none }).run P w = .ok .skip (w.setRow g (sto cur (i * sz') v.cells)) := by
    simp only [execOp, hx, hy, hpa]
    simp [Instr.storeAt, Instr.sureAddr, storeVar, ts.size, hvs, hst, sto]
  rw [hrun]
  show runL ro P all Q os ((act n ρ ds).put d undef) _
  rw [act_put]
  refine h _ (hw.trans (std_setRow _ _ _)) ?_
  have hh3 := hh2.update (o' := .cells (sto cur (i * sz') v.cells) e (0, 0)) (setRow_heap w g cur _ e _ hbw) (fun j hj => hp_setRow_ne w _ hj)
  have hsize : (sto cur (i * sz') v.cells).toList = cur.toList.take (i * sz') ++ enc z ++ cur.toList.drop ((i + 1) * sz') := by
    simp only [sto, hvl]
    rw [hv, show (i + 1) * sz' = i * sz' + sz' by rw [Nat.add_mul]; omega]
  have hcl : cur.toList.length = c * sz' := by rw [Array.length_toList, h3]
  refine (hh3.ent (Ent.star ?_ (Ent.refl _))).ent (Ent.swap _ _ _)
  intro B k hk
  refine .inr ⟨g, _, rfl, hk, by simpa using h1, h2, ?_, ?_⟩
  · rw [← Array.length_toList, hsize]
    have := el.len z
    simp only [List.length_append, List.length_take, List.length_drop, hcl, this]
    have h5 : (i + 1) * sz' ≤ c * sz' := Nat.mul_le_mul_right _ (by omega)
    have h6 : (i + 1) * sz' = i * sz' + sz' := by rw [Nat.add_mul]; omega
    omega
  · rw [hsize, List.length_set, flat_set xs i z hi, ← h4]
    have h5 : (i + 1) * sz' ≤ xs.length * sz' := Nat.mul_le_mul_right _ hi
    have h6 : (i + 1) * sz' = i * sz' + sz' := by rw [Nat.add_mul]; omega
    have h7 : xs.length * sz' ≤ cur.toList.length := by rw [hcl]; exact Nat.mul_le_mul_right _ h1
    have hl1 : (cur.toList.take (i * sz') ++ enc z).length = (i + 1) * sz' := by
      simp only [List.length_append, List.length_take, el.len]; omega
    rw [List.take_take, Nat.min_eq_left (by omega), List.drop_take]
    conv => lhs; rw [show xs.length * sz' = (cur.toList.take (i * sz') ++ enc z).length + (xs.length * sz' - (i + 1) * sz') by rw [hl1]; omega]
    rw [List.take_length_add_append]
theorem osl_take {e : TypeId} [el : EncLen enc sz] {c k : Nat} (hk : k ≤ xs.length) : Ent (osl e enc sz S c xs) (osl e enc sz S c (xs.take k)) := by
  rintro B h (⟨hA, rfl, hc⟩ | ⟨g, cur, hA, hg, h1, h2, h3, h4⟩)
  · exact .inl ⟨hA, by simp, hc⟩
  · refine .inr ⟨g, cur, hA, hg, by simp; omega, h2, h3, ?_⟩
    rw [List.length_take, Nat.min_eq_left hk, ← flat_take, ← h4, List.take_take, Nat.min_eq_left (Nat.mul_le_mul_right _ hk)]
/-- An owned row grows no shorter than its room. -/
theorem osl_room {e : TypeId} {c : Nat} {C : SProp} {w : World} (h : holds (star (osl e enc sz S c xs) C) w) : xs.length ≤ c := by
  obtain ⟨_, _, _, _, _, _, _, _, _, _, x, _⟩ := h
  rcases x with ⟨_, rfl, rfl⟩ | ⟨_, _, _, _, h1, _⟩
  · exact Nat.le_refl _
  · exact h1
/-- 's[:k]' of an owned row. -/
theorem o_upto {t e : TypeId} {sz' c len k : Nat} {kd : IntKind} {m : Int} {M : List SProp} (hx : ev n ρ x = .slice S len c) (hy : ev n ρ y = .int kd m) (hm : m = (k : Int)) [tk : Take1 L (osl e enc sz S c xs) M] [el : EncLen enc sz] [st : SlTy P t e sz'] (hl : xs.length = len) (hk : k ≤ len)
    (h : G w0 A (osl e enc sz S c (xs.take k) :: M) (fun w => runL ro P all Q os (act n (updo ρ d (.slice S k c)) ds) w)) :
    G w0 A L (fun w => runL ro P all Q ({ dst := d, op := .slice t x none (some y) none, type := ty, pos := pos, after := af, guard := none } :: os) (act n ρ ds) w) := by
  subst hl hm
  have hh1 : ∀ w, holds (star A (sl L)) w → xs.length ≤ c := fun w hh => osl_room ((hh.ent ((Ent.refl A).star (sl_perm tk.perm))).ent (Ent.swap _ _ _))
  refine o_val (v := .slice S k c) rfl (by intro c e; cases e) (fun w hw hh => ?_) ?_
  · simp only [execOp]
    refine run_v ?_
    have hc := hh1 w hh
    have hkc : (k : Int) ≤ (c : Int) := by omega
    simp only [Option.map_none, Option.map_some, hx, hy]
    simp [Instr.sliceAt, Instr.slice, run_underlying st.ty, Instr.sliceBounds, Instr.sliceBound, asIntOf, st.size, hkc]
    have hkn : k ≤ c := by omega
    cases S <;> simp [Addr.add] <;> intro hck <;> exact absurd hck (by omega)
  · exact G.perm tk.perm (G.ent (L := osl e enc sz S c xs :: M) (L' := osl e enc sz S c (xs.take k) :: M) ((osl_take hk).star (Ent.refl _)) h)
theorem o_uptoR {t e : TypeId} {sz' c len k : Nat} {kd : IntKind} {m : Int} {M : List SProp} (hx : ev n ρ x = .slice S len c) (hy : ev n ρ y = .int kd m) (hm : m = (k : Int)) [tk : Take1 L (osl e enc sz S c xs) M] [st : SlTy P t e sz'] (hl : xs.length = len) (hk : k ≤ len)
    (h : G w0 A L (fun w => runL ro P all Q os (act n (updo ρ d (.slice S k c)) ds) w)) :
    G w0 A L (fun w => runL ro P all Q ({ dst := d, op := .slice t x none (some y) none, type := ty, pos := pos, after := af, guard := none } :: os) (act n ρ ds) w) := by
  subst hl hm
  have hh1 : ∀ w, holds (star A (sl L)) w → xs.length ≤ c := fun w hh => osl_room ((hh.ent ((Ent.refl A).star (sl_perm tk.perm))).ent (Ent.swap _ _ _))
  refine o_val (v := .slice S k c) rfl (by intro c e; cases e) (fun w hw hh => ?_) h
  simp only [execOp]
  refine run_v ?_
  have hc := hh1 w hh
  have hkc : (k : Int) ≤ (c : Int) := by omega
  simp only [Option.map_none, Option.map_some, hx, hy]
  simp [Instr.sliceAt, Instr.slice, run_underlying st.ty, Instr.sliceBounds, Instr.sliceBound, asIntOf, st.size, hkc]
  have hkn : k ≤ c := by omega
  cases S <;> simp [Addr.add] <;> intro hck <;> exact absurd hck (by omega)
theorem G.shorten {e : TypeId} [el : EncLen enc sz] {c : Nat} (k : Nat) {M : List SProp} {Φ : World → Prop} [tk : Take1 L (osl e enc sz S c xs) M] (hk : k ≤ xs.length) (h : G w0 A (osl e enc sz S c (xs.take k) :: M) Φ) : G w0 A L Φ :=
  G.perm tk.perm (G.ent (L := osl e enc sz S c xs :: M) (L' := osl e enc sz S c (xs.take k) :: M) ((osl_take hk).star (Ent.refl _)) h)
/-- 'make([]T, 0, c)'. -/
theorem o_make0 {t e : TypeId} {s bytes c : Nat} {kl kc : IntKind} {m : Int} (hx : ev n ρ x = .int kl 0) (hy : ev n ρ y = .int kc m) (hm : m = (c : Int)) [at_ : ApTy P t e s bytes] [en : EncLen enc s] (hb : bytes * c ≤ 281474976710656) (hc : c ≤ maxLen)
    (h : ∀ S, G w0 A (osl e enc s S c ([] : List α) :: L) (fun w => runL ro P all Q os (act n (updo ρ d (.slice S 0 c)) ds) w)) :
    G w0 A L (fun w => runL ro P all Q ({ dst := d, op := .makeSlice t x y, type := ty, pos := pos, after := af, guard := none } :: os) (act n ρ ds) w) := by
  subst hm
  refine o_run rfl fun w hw hh => ?_
  refine ⟨fun _ _ => trivial, ?_⟩
  rw [Oper.semAt_eq _ _ _ (by intro c e; cases e), act_eval]
  obtain ⟨i, z, ht, hi, hz, h1, h2, h3⟩ := at_.ex
  obtain ⟨w', hrun, ho, hg⟩ := run_make_own (P := P) w 0 t e i z s ht hi hz h1 kl kc c (by rw [h2]; exact hb) hc (Nat.zero_le _)
  have hh1 : holds (star (osl e enc s none 0 ([] : List α)) (star A (sl L))) w := by
    obtain ⟨B, k, dd, l, m, x⟩ := hh
    exact ⟨B, k, dd, l, m, hnil, k, (Dj.nil _).symm, .nil _, .refl _, .inl ⟨rfl, rfl, rfl⟩, x⟩
  obtain ⟨S2, c3, he, hh2⟩ := hh1.grown (zs := ([] : List α)) ho (by simpa [Value.ownBlock] using hg) (.inr rfl)
  simp only [Value.slice.injEq, List.length_nil, true_and] at he
  obtain ⟨rfl, rfl⟩ := he
  have hex : (execOp (ev n ρ) { dst := d, op := .makeSlice t x y, type := ty, pos := pos, after := af, guard := none }).run P w = .ok (.value (.slice (some ⟨w.heap.size, 0, none⟩) 0 c)) w' := by
    simp only [execOp, hx, hy]
    simp [hrun]
  rw [hex]
  show runL ro P all Q os ((act n ρ ds).put d _) w'
  rw [act_put]
  exact h _ w' (hw.trans ⟨hg.os, hg.tape, hg.output, hg.size⟩) (hh2.ent (Ent.swap _ _ _))

/-- 'append' to an empty owned row. -/
theorem o_append0 {t e : TypeId} {s bytes c c2 len : Nat} {ys : List α} {S' : Option Addr} {tys : Array TypeId} {M : List SProp} (hx : ev n ρ x = .slice S 0 c) (hy : ev n ρ y = .slice S' len c2) (ht : tys = #[t, t]) [at_ : ApTy P t e s bytes] [en : EncLen enc sz] (hs : s = sz)
    [hr : HasRd L S' enc sz ys] (hlen : ys.length = len) [tk : Take1 L (osl e enc sz S c ([] : List α)) M] (hmax : ys.length ≤ maxLen) (hbytes : ys.length * bytes ≤ 140737488355328)
    (h : ∀ S2 c3, G w0 A (osl e enc sz S2 c3 ys :: M) (fun w => runL ro P all Q os (act n (updo ρ d (.slice S2 len c3)) ds) w)) :
    G w0 A L (fun w => runL ro P all Q ({ dst := d, op := .call { callee := .builtin .append, args := #[x, y], argTypes := tys }, type := ty, pos := pos, after := af, guard := none } :: os) (act n ρ ds) w) :=
  o_append (xs := ([] : List α)) hx hy ht hs hlen (fun _ => .inr trivial) (by simpa using hmax) (by simpa using hbytes) fun S2 c3 => by
    have := h S2 c3
    rw [← hlen] at this
    simpa using this
/-- A function held against nil. -/
theorem o_fnil {xt yt : TypeId} {fn : Fn} {a c : Array Value} (hx : ev n ρ x = .func fn a c) (hg : ∀ w, (eqGuard .eql xt x (.const .nilFunc) (.func fn a c) .nilFunc).run P w = .ok () w) (hr : ∀ w, (binOp .eql xt (.func fn a c) .nilFunc).run P w = .ok (.bool false) w)
    (h : G w0 A L (fun w => runL ro P all Q os (act n (updo ρ d (.bool false)) ds) w)) :
    G w0 A L (fun w => runL ro P all Q ({ dst := d, op := .binOp .eql xt x (.const .nilFunc) yt, type := ty, pos := pos, after := af, guard := none } :: os) (act n ρ ds) w) :=
  o_val rfl (by intro c e; cases e) (fun w _ _ => run_bin (by rw [hx]; exact hg w) (by rw [hx]; exact hr w)) h
/-- What a block holds, written otherwise. -/
theorem G.norm (b : Nat) (cs' : Array Value) {e : TypeId} {cs : Array Value} {f : Obj → List SProp} {Φ : World → Prop} [rb : RepBlk L b (.cells cs e (0, 0)) f] (hc : cs = cs') (h : G w0 A (f (.cells cs' e (0, 0))) Φ) : G w0 A L Φ := by
  subst hc
  obtain ⟨M, p, q⟩ := rb.perm
  exact G.perm (p.trans (q _).symm) h

/-! ### Ordered sets -/
/-- A row, owned, or seen by somebody: then it stays for ever. -/
def row (e : TypeId) (enc : α → List Value) (sz : Nat) (b : Bool) (S : Option Addr) (c : Nat) (ys : List α) : SProp := cond b (psl enc sz S ys) (osl e enc sz S c ys)
instance {e : TypeId} {b : Bool} {c : Nat} {ys : List α} [EncLen enc sz] : HasRd (row e enc sz b S c ys :: L) S enc sz ys := ⟨by
  cases b
  · exact (HasRd.ohead (L := L) (A := S) (e := e) (c := c) (ys := ys)).sees
  · exact (HasRd.head (L := L) (A := S) (ys := ys)).sees⟩
theorem G.see {e : TypeId} {b : Bool} {c : Nat} {ys : List α} {Φ : World → Prop} [EncLen enc sz] (h : G w0 A (psl enc sz S ys :: L) Φ) : G w0 A (row e enc sz b S c ys :: L) Φ := by
  cases b
  · exact G.freeze_slice h
  · exact h
theorem G.pu_in {q : Prop} {Φ : World → Prop} (hq : q) (h : G w0 A (Sl.pu q :: L) Φ) : G w0 A L Φ :=
  G.ent (L := L) (L' := Sl.pu q :: L) (show Ent (sl L) (star (Sl.pu q) (sl L)) from fun _ k x => ⟨hnil, k, (Dj.nil _).symm, .nil _, .refl _, hq, x⟩) h
theorem Take.setback {X Y : SProp} {L M : List SProp} [tk : Take1 L X M] : Take (X :: Y :: M) (Y :: L) [] := ⟨by rw [List.append_nil]; exact (List.Perm.swap _ _ _).trans (tk.perm.symm.cons Y)⟩
theorem G.see1 {e : TypeId} {b : Bool} {c : Nat} {ys : List α} {Φ : World → Prop} [EncLen enc sz] (h : G w0 A (psl enc sz S ys :: L) Φ) : G w0 A ([row e enc sz b S c ys] ++ L) Φ := G.see h
/-- A set at p whose members are these: its list, and whether the list is seen. -/
def SetP (st e : TypeId) (enc : α → List Value) (sz : Nat) (p : Nat) (ys : List α) : SProp :=
  ex fun r : Option Addr × Nat × Bool => sl [cellsB p #[.slice r.1 ys.length r.2.1, .bool r.2.2] st, row e enc sz r.2.2 r.1 r.2.1 ys]
variable {st e : TypeId} {p : Nat} {ys : List α} {M : List SProp} {Φ : World → Prop}
theorem SetP.open [tk : Take1 L (SetP st e enc sz p ys) M] (h : ∀ S c b, G w0 A (cellsB p #[.slice S ys.length c, .bool b] st :: row e enc sz b S c ys :: M) Φ) : G w0 A L Φ :=
  G.perm tk.perm (G.ex fun ⟨S, c, b⟩ => G.open_sl (h S c b))
theorem SetP.shut {S : Option Addr} {c : Nat} {b : Bool} {len : Nat} (hl : ys.length = len) [tk : Take L [cellsB p #[.slice S len c, .bool b] st, row e enc sz b S c ys] M] (h : G w0 A (SetP st e enc sz p ys :: M) Φ) : G w0 A L Φ := by
  subst hl
  refine G.perm tk.perm (G.ent ?_ h)
  refine (sl_append_to _ M).trans (Ent.star ?_ (Ent.refl _))
  exact fun B k x => ⟨(S, c, b), x⟩
end
end Go.Sl
/- Parts of slices that stay. Plain library, no program in sight. -/
namespace Go.Sl
open Go Go.Proofs Go.RowKit

section
variable {w0 : World} {A : SProp} {L : List SProp} {ro : Option Nat} {P : Program} {Q : Exit → Act → World → Prop} {all : Array Oper} {os : List Oper} {n : Nat} {ρ : Nat → Value} {ds : List Nat}
variable {d : Option Tmp} {ty : TypeId} {pos : String} {af : Array Edge} {x y : Operand}
variable {α : Type} {enc : α → List Value} {sz : Nat} {xs : List α} {S : Option Addr}
theorem rdE.take {h : Hp} (r : rdE S enc sz xs h) (k : Nat) : rdE S enc sz (xs.take k) h := fun i y hy => r i y (by
  rw [List.getElem?_take] at hy
  split at hy
  · exact hy
  · cases hy)
/-- Where 's[k:]' begins. -/
def offA (S : Option Addr) (c k sz : Nat) : Option Addr := if c = k then S else S.map (·.add (k * sz))
theorem rdE.drop {h : Hp} (r : rdE S enc sz xs h) (c k : Nat) (hc : xs.length ≤ c) : rdE (offA S c k sz) enc sz (xs.drop k) h := fun i y hy => by
  rw [List.getElem?_drop] at hy
  have hlt : k + i < xs.length := (List.getElem?_eq_some_iff.1 hy).1
  obtain ⟨b, o, rfl, hu⟩ := r (k + i) y hy
  refine ⟨b, o + k * sz, ?_, fun j u hj => ?_⟩
  · unfold offA
    rw [if_neg (by omega)]
    simp [add_off]
  · have := hu j u hj
    rwa [show o + ((k + i) * sz + j) = o + k * sz + (i * sz + j) by rw [Nat.add_mul]; omega] at this
theorem psl_take_ent (k : Nat) {M : List SProp} [tk : Take1 L (psl enc sz S xs) M] : Ent (sl L) (star (psl enc sz S (xs.take k)) (sl L)) := by
  refine (sl_perm tk.perm).trans (Ent.trans ?_ ((Ent.refl _).star (sl_perm tk.perm.symm)))
  exact fun B h ⟨k1, k2, d, l1, l2, x, y⟩ => ⟨hnil, h, (Dj.nil _).symm, .nil _, .refl _, rdE.take x k, k1, k2, d, l1, l2, x, y⟩
theorem psl_drop_ent (c k : Nat) (hc : xs.length ≤ c) {M : List SProp} [tk : Take1 L (psl enc sz S xs) M] : Ent (sl L) (star (psl enc sz (offA S c k sz) (xs.drop k)) (sl L)) := by
  refine (sl_perm tk.perm).trans (Ent.trans ?_ ((Ent.refl _).star (sl_perm tk.perm.symm)))
  exact fun B h ⟨k1, k2, d, l1, l2, x, y⟩ => ⟨hnil, h, (Dj.nil _).symm, .nil _, .refl _, rdE.drop x c k hc, k1, k2, d, l1, l2, x, y⟩
/-- 's[:k]'. -/
theorem o_uptoP {t e : TypeId} {sz' c len k : Nat} {kd : IntKind} {m : Int} (hx : ev n ρ x = .slice S len c) (hy : ev n ρ y = .int kd m) (hm : m = (k : Int)) [st : SlTy P t e sz'] (hc : k ≤ c)
    (h : G w0 A L (fun w => runL ro P all Q os (act n (updo ρ d (.slice S k c)) ds) w)) :
    G w0 A L (fun w => runL ro P all Q ({ dst := d, op := .slice t x none (some y) none, type := ty, pos := pos, after := af, guard := none } :: os) (act n ρ ds) w) := by
  subst hm
  refine o_val (v := .slice S k c) rfl (by intro c e; cases e) (fun w hw hh => ?_) h
  simp only [execOp]
  refine run_v ?_
  have hkc : (k : Int) ≤ (c : Int) := by omega
  simp only [Option.map_none, Option.map_some, hx, hy]
  simp [Instr.sliceAt, Instr.slice, run_underlying st.ty, Instr.sliceBounds, Instr.sliceBound, asIntOf, st.size]
  rw [if_pos hc]
  cases S <;> simp [Addr.add]
/-- 's[k:]'. -/
theorem o_fromP {t e : TypeId} {sz' c len k : Nat} {kd : IntKind} {m : Int} (hx : ev n ρ x = .slice S len c) (hy : ev n ρ y = .int kd m) (hm : m = (k : Int)) [st : SlTy P t e sz'] (hk : k ≤ len)
    (h : G w0 A L (fun w => runL ro P all Q os (act n (updo ρ d (.slice (offA S c k sz') (len - k) (c - k))) ds) w)) :
    G w0 A L (fun w => runL ro P all Q ({ dst := d, op := .slice t x (some y) none none, type := ty, pos := pos, after := af, guard := none } :: os) (act n ρ ds) w) := by
  subst hm
  refine o_val (v := .slice (offA S c k sz') (len - k) (c - k)) rfl (by intro c e; cases e) (fun w hw hh => ?_) h
  simp only [execOp]
  refine run_v ?_
  simp only [Option.map_none, Option.map_some, hx, hy]
  simp [Instr.sliceAt, Instr.slice, run_underlying st.ty, Instr.sliceBounds, Instr.sliceBound, asIntOf, st.size, offA]
  exact fun hlt => absurd hlt (by omega)
theorem G.taken (k : Nat) {M : List SProp} {Φ : World → Prop} [tk : Take1 L (psl enc sz S xs) M] (h : G w0 A (psl enc sz S (xs.take k) :: L) Φ) : G w0 A L Φ := G.ent (L := L) (L' := psl enc sz S (xs.take k) :: L) (psl_take_ent k) h
theorem G.dropped (c k : Nat) (hc : xs.length ≤ c) {M : List SProp} {Φ : World → Prop} [tk : Take1 L (psl enc sz S xs) M] (h : G w0 A (psl enc sz (offA S c k sz) (xs.drop k) :: L) Φ) : G w0 A L Φ :=
  G.ent (L := L) (L' := psl enc sz (offA S c k sz) (xs.drop k) :: L) (psl_drop_ent c k hc) h
/-- A cut behind a block (a loop, say), where what follows stands in the exit already. -/
theorem g_cutb {F : Fence} {m : Nat} {σ : Type} {n : Nat} {ρ : Nat → Value} {ds ds' : List Nat} {x : Code} {id : Nat} {K : Act → World → Prop} (T : σ → List (Nat × Value)) (H : σ → List SProp) (ok : σ → Prop)
    (h : G w0 A L (fun w => x.wpIn F m P (Exit.inBlock id (Exit.then (Meets w0 A n ds' T H ok) Q)) (act n ρ ds) w))
    (k : ∀ s ρ', ok s → G w0 A (H s) (fun w => K (act n (updl ρ' (T s)) ds') w)) : G w0 A L (fun w => x.wpIn F m P (Exit.inBlock id (Exit.then K Q)) (act n ρ ds) w) := by
  refine h.mono fun _ hw => wpIn_mono hw ?_
  intro e a w' hq
  cases e with
  | normal => exact Meets.elim (Φ := K) hq k
  | exit j =>
    simp only [Exit.inBlock] at hq ⊢
    split at hq
    · rename_i hj; rw [if_pos hj]; exact Meets.elim (Φ := K) hq k
    · rename_i hj; rw [if_neg hj]; exact hq
  | _ => exact hq
end
end Go.Sl
/- A region that draws its order, with operations that float: they take nothing but what is read, and what they make is had later. Plain library, no program in sight. -/
namespace Go.Sl
open Go Go.Proofs

/-- What the walk does: an operation; a floating one told; what it made, had. -/
inductive It where
  | op (i : Nat)
  | dec (i : Nat)
  | join (i : Nat)
def It.ix : It → Nat
  | .op i => i
  | .dec i => i
  | .join i => i
def It.isJ : It → Bool
  | .join _ => true
  | _ => false
abbrev Kd := Value → List SProp → Prop
/-- The order in which the walk takes the operations. -/
def okOrderF (lou : List Nat) (b : List Nat) : List It → Bool
  | [] => true
  | .op i :: π => (!lou.contains i || π.all fun y => y.isJ || isAnc b y.ix i) && (π.all fun y => !isAnc b i y.ix) && (π.all fun y => y.ix != i) && okOrderF lou b π
  | .dec i :: π => (π.any fun y => y.isJ && y.ix == i) && (π.all fun y => !isAnc b i y.ix) && (π.all fun y => y.isJ || y.ix != i) && okOrderF lou b π
  | .join i :: π => (π.all fun y => y.isJ || isAnc b y.ix i) && (π.all fun y => !y.isJ || y.ix != i) && okOrderF lou b π
def okPermF (m : Nat) (π : List It) : Bool := ((π.filter fun y => !y.isJ).length == m) && ((List.range m).all fun i => π.any fun y => !y.isJ && y.ix == i) && (π.all fun y => Nat.blt y.ix m)
def okSyncF (b : List Nat) (m i : Nat) (π : List It) : Bool := (List.range m).all fun j => (π.any fun y => !y.isJ && y.ix == j) || (j == i || isAnc b i j)

def ObF (w0 : World) (A : SProp) (ro : Option Nat) (P : Program) (l : List Oper) (n : Nat) (ds : List Nat) (lou : List Nat) (K : (Nat → Value) → List SProp → Prop) : List It → List (Nat × Kd) → List SProp → (Nat → Value) → List SProp → Prop
  | [], _, Lq, ρ, Lp => K ρ (Lq ++ Lp)
  | .op i :: π, D, Lq, ρ, Lp => match l[i]? with
    | none => False
    | some o => if lou.contains i then
        ∀ X, OStep w0 (star A X) ro P l.toArray n ds ρ (Lq ++ Lp) o (fun v M => ∃ Lq' Lp', Ent (sl M) (sl (Lq' ++ Lp')) ∧ (Lq' = Lq ∨ okSyncF (masks l []) l.length i π = true) ∧ ObF w0 A ro P l n ds lou K π D Lq' (updo ρ o.dst v) Lp')
      else ∃ v, (∀ X, OStep w0 A ro P l.toArray n ds ρ (Lq ++ X) o (fun u M => u = v ∧ M = Lq ++ X)) ∧ ObF w0 A ro P l n ds lou K π D Lq (updo ρ o.dst v) Lp
  | .dec i :: π, D, Lq, ρ, Lp => match l[i]? with
    | none => False
    | some o => ∃ R : Kd, (∀ X, OStep w0 A ro P l.toArray n ds ρ (Lq ++ X) o (fun v M => ∃ M', Ent (sl M) (sl (Lq ++ (X ++ M'))) ∧ R v M')) ∧ ObF w0 A ro P l n ds lou K π ((i, R) :: D) Lq ρ Lp
  | .join i :: π, D, Lq, ρ, Lp => match l[i]? with
    | none => False
    | some o => ∃ R : Kd, (i, R) ∈ D ∧ ∀ v M, R v M → ObF w0 A ro P l n ds lou K π D Lq (updo ρ o.dst v) (M ++ Lp)

/-- Walked and not run: with the value it will have, or with what will be said of what it makes. -/
abbrev Pe := Nat × (Nat → Value) × (Value ⊕ Kd)
/-- Run, and not had yet. -/
abbrev Ee := Nat × Value × List SProp × Kd
def earV (l : List Oper) (ear : List Ee) (t : Nat) : Option Value := (ear.find? (fun e => dstAt l e.1 == some t)).map (·.2.1)
def EL (ear : List Ee) : List SProp := ear.flatMap (·.2.2.1)
def curF (l : List Oper) (ρ0 : Nat → Value) (pend : List Pe) (ear : List Ee) (ρf : Nat → Value) : Nat → Value := fun t => match earV l ear t with
  | some v => v
  | none => cond (pend.any (fun p => dstAt l p.1 == some t)) (ρ0 t) (ρf t)
theorem earV_some {l : List Oper} {ear : List Ee} {t : Nat} {v : Value} (h : earV l ear t = some v) : ∃ e ∈ ear, dstAt l e.1 = some t ∧ e.2.1 = v := by
  unfold earV at h
  rw [Option.map_eq_some_iff] at h
  obtain ⟨e, he, hv⟩ := h
  exact ⟨e, List.mem_of_find?_eq_some he, by simpa using List.find?_some he, hv⟩
theorem earV_none {l : List Oper} {ear : List Ee} {t : Nat} (h : ∀ e ∈ ear, dstAt l e.1 ≠ some t) : earV l ear t = none := by
  unfold earV
  rw [Option.map_eq_none_iff, List.find?_eq_none]
  intro e he
  simpa using h e he
theorem earV_drop {l : List Oper} {ea eb : List Ee} {e : Ee} {t : Nat} (h : dstAt l e.1 ≠ some t) : earV l (ea ++ e :: eb) t = earV l (ea ++ eb) t := by
  unfold earV
  congr 1
  rw [List.find?_append, List.find?_append, List.find?_cons]
  have : (dstAt l e.1 == some t) = false := by simpa using h
  rw [this]
theorem earV_cons {l : List Oper} {ear : List Ee} {e : Ee} {t : Nat} (h : dstAt l e.1 ≠ some t) : earV l (e :: ear) t = earV l ear t := earV_drop (ea := []) h
theorem earV_head {l : List Oper} {ear : List Ee} {e : Ee} {t : Nat} (h : dstAt l e.1 = some t) : earV l (e :: ear) t = some e.2.1 := by
  unfold earV
  rw [List.find?_cons]
  simp [h]

section
variable {w0 : World} {A : SProp} {ro : Option Nat} {P : Program} {n : Nat} {ds : List Nat}
structure InvF (w0 : World) (A : SProp) (ro : Option Nat) (P : Program) (l : List Oper) (n : Nat) (ds : List Nat) (b : List Nat) (Lq : List SProp) (ρ0 : Nat → Value) (listed : Array Bool) (π : List It) (D : List (Nat × Kd)) (pend : List Pe) (ear : List Ee) (ρf : Nat → Value) : Prop where
  sz : listed.size = l.length
  inπ : ∀ x ∈ π, x.isJ = false → x.ix < l.length ∧ listed.getD x.ix false = false ∧ ∀ p ∈ pend, p.1 ≠ x.ix
  inP : ∀ p ∈ pend, p.1 < l.length ∧ listed.getD p.1 false = false
  inE : ∀ e ∈ ear, e.1 < l.length ∧ listed.getD e.1 false = true ∧ It.join e.1 ∈ π ∧ e.2.2.2 e.2.1 e.2.2.1
  all : ∀ j, j < l.length → listed.getD j false = true ∨ (∃ p ∈ pend, p.1 = j) ∨ ∃ x ∈ π, x.isJ = false ∧ x.ix = j
  nP : (pend.map (·.1)).Nodup
  nE : (ear.map (·.1)).Nodup
  closed : ∀ i j, listed.getD i false = true → isAnc b i j = true → j < l.length → listed.getD j false = true
  base : ∀ t, (∀ j, j < l.length → (∀ x ∈ π, x.ix ≠ j) → dstAt l j ≠ some t) → ρf t = ρ0 t
  pa : ∀ p ∈ pend, ∀ x ∈ π, isAnc b p.1 x.ix = false
  pq : ∀ p ∈ pend, ∀ o, l[p.1]? = some o → (match p.2.2 with
      | .inl v => (∀ X, OStep w0 A ro P l.toArray n ds p.2.1 (Lq ++ X) o (fun u M => u = v ∧ M = Lq ++ X)) ∧ (∀ d, o.dst = some d → ρf d = v)
      | .inr R => (∀ X, OStep w0 A ro P l.toArray n ds p.2.1 (Lq ++ X) o (fun v M => ∃ M', Ent (sl M) (sl (Lq ++ (X ++ M'))) ∧ R v M')) ∧ It.join p.1 ∈ π) ∧
    ∀ t ∈ o.looksAt l.toArray, ((∃ j, j < l.length ∧ isAnc b p.1 j = true ∧ dstAt l j = some t) → p.2.1 t = ρf t) ∧ ((∀ j, j < l.length → isAnc b p.1 j = true → dstAt l j ≠ some t) → p.2.1 t = ρ0 t)
  dl : ∀ q ∈ D, (∃ p ∈ pend, p.1 = q.1 ∧ p.2.2 = .inr q.2) ∨ (∃ e ∈ ear, e.1 = q.1 ∧ e.2.2.2 = q.2) ∨ (∀ x ∈ π, x.ix ≠ q.1)

variable {l : List Oper} {b lou : List Nat} {Lq : List SProp} {ρ0 : Nat → Value} {K : (Nat → Value) → List SProp → Prop}

theorem okF_tail {x : It} {π : List It} (h : okOrderF lou b (x :: π) = true) : okOrderF lou b π = true := by
  cases x <;> simp only [okOrderF, Bool.and_eq_true] at h <;> exact h.2
theorem okF_anc {x : It} {π : List It} (h : okOrderF lou b (x :: π) = true) (hx : x.isJ = false) : ∀ y ∈ π, isAnc b x.ix y.ix = false := by
  cases x with
  | join i => cases hx
  | op i =>
    simp only [okOrderF, Bool.and_eq_true, List.all_eq_true] at h
    intro y hy; simpa [It.ix] using h.1.1.2 y hy
  | dec i =>
    simp only [okOrderF, Bool.and_eq_true, List.all_eq_true] at h
    intro y hy; simpa [It.ix] using h.1.1.2 y hy
theorem okF_ne {x : It} {π : List It} (h : okOrderF lou b (x :: π) = true) (hx : x.isJ = false) : ∀ y ∈ π, y.isJ = false → y.ix ≠ x.ix := by
  cases x with
  | join i => cases hx
  | op i =>
    simp only [okOrderF, Bool.and_eq_true, List.all_eq_true] at h
    intro y hy hj; simpa [It.ix] using h.1.2 y hy
  | dec i =>
    simp only [okOrderF, Bool.and_eq_true, List.all_eq_true] at h
    intro y hy hj; simpa [hj, It.ix] using h.1.2 y hy

/-- A quiet operation, or a floating one, is walked. -/
theorem InvF.push (rf : RegFacts l n b) {listed : Array Bool} {x : It} {π : List It} {D D' : List (Nat × Kd)} {pend : List Pe} {ear : List Ee} {ρf ρf' : Nat → Value} {o : Oper} {kd : Value ⊕ Kd} (h : InvF w0 A ro P l n ds b Lq ρ0 listed (x :: π) D pend ear ρf)
    (ho : okOrderF lou b (x :: π) = true) (hx : x.isJ = false) (hk : l[x.ix]? = some o) (hρ : ∀ t, dstAt l x.ix ≠ some t → ρf' t = ρf t)
    (hkd : match kd with
      | .inl v => (∀ X, OStep w0 A ro P l.toArray n ds ρf (Lq ++ X) o (fun u M => u = v ∧ M = Lq ++ X)) ∧ (∀ d, o.dst = some d → ρf' d = v) ∧ (∀ y ∈ π, y.ix ≠ x.ix)
      | .inr R => (∀ X, OStep w0 A ro P l.toArray n ds ρf (Lq ++ X) o (fun v M => ∃ M', Ent (sl M) (sl (Lq ++ (X ++ M'))) ∧ R v M')) ∧ It.join x.ix ∈ π ∧ ρf' = ρf)
    (hD : match kd with
      | .inl _ => D' = D
      | .inr R => D' = (x.ix, R) :: D) :
    InvF w0 A ro P l n ds b Lq ρ0 listed π D' ((x.ix, ρf, kd) :: pend) ear ρf' ∧ curF l ρ0 ((x.ix, ρf, kd) :: pend) ear ρf' = curF l ρ0 pend ear ρf := by
  have hkl : x.ix < l.length := (List.getElem?_eq_some_iff.1 hk).1
  have hkd' := dstAt_of hk
  obtain ⟨_, hkn, hkp⟩ := h.inπ x List.mem_cons_self hx
  have hbase : ∀ t, dstAt l x.ix = some t → ρf t = ρ0 t := fun t ht => h.base t fun j hj hjn e => hjn x List.mem_cons_self (rf.dne j x.ix t hj hkl e ht).symm
  refine ⟨⟨h.sz, ?_, ?_, ?_, ?_, ?_, h.nE, h.closed, ?_, ?_, ?_, ?_⟩, ?_⟩
  · intro y hy hj
    obtain ⟨h1, h2, h3⟩ := h.inπ y (List.mem_cons_of_mem _ hy) hj
    refine ⟨h1, h2, fun p hp => ?_⟩
    rcases List.mem_cons.1 hp with rfl | hp
    · exact (okF_ne ho hx y hy hj).symm
    · exact h3 p hp
  · intro p hp
    rcases List.mem_cons.1 hp with rfl | hp
    · exact ⟨hkl, hkn⟩
    · exact h.inP p hp
  · intro e he
    obtain ⟨h1, h2, h3, h4⟩ := h.inE e he
    refine ⟨h1, h2, ?_, h4⟩
    rcases List.mem_cons.1 h3 with h3 | h3
    · rw [← h3] at hx; cases hx
    · exact h3
  · intro j hj
    rcases h.all j hj with h1 | ⟨p, hp, rfl⟩ | ⟨y, hy, h1, h2⟩
    · exact .inl h1
    · exact .inr (.inl ⟨p, List.mem_cons_of_mem _ hp, rfl⟩)
    · rcases List.mem_cons.1 hy with rfl | hy
      · exact .inr (.inl ⟨_, List.mem_cons_self, h2⟩)
      · exact .inr (.inr ⟨y, hy, h1, h2⟩)
  · rw [List.map_cons, List.nodup_cons]
    refine ⟨fun hm => ?_, h.nP⟩
    obtain ⟨p, hp, e⟩ := List.mem_map.1 hm
    exact hkp p hp e
  · intro t ht
    have hs : ∀ (_ : dstAt l x.ix ≠ some t), ρf' t = ρ0 t := fun hne => by
      rw [hρ t hne]
      refine h.base t fun j hj hjn => ht j hj fun y hy => hjn y (List.mem_cons_of_mem _ hy)
    cases kd with
    | inl v =>
      exact hs (ht x.ix hkl hkd.2.2)
    | inr R =>
      by_cases e : dstAt l x.ix = some t
      · rw [hkd.2.2]; exact hbase t e
      · exact hs e
  · intro p hp y hy
    rcases List.mem_cons.1 hp with rfl | hp
    · exact okF_anc ho hx y hy
    · exact h.pa p hp y (List.mem_cons_of_mem _ hy)
  · intro p hp o' ho'
    rcases List.mem_cons.1 hp with rfl | hp
    · rw [hk] at ho'
      obtain rfl := Option.some.inj ho'
      refine ⟨?_, fun t ht => ⟨?_, ?_⟩⟩
      · cases kd with
        | inl v => exact ⟨hkd.1, hkd.2.1⟩
        | inr R => exact ⟨hkd.1, hkd.2.1⟩
      · rintro ⟨j, hj, ha, hd⟩
        refine (hρ t fun e => ?_).symm
        have : j = x.ix := rf.dne j x.ix t hj hkl hd e
        subst this
        rw [rf.irr _ hj] at ha; cases ha
      · intro hno
        refine h.base t fun j hj hjn e => ?_
        rcases rf.look x.ix o hk t ht j hj e with h1 | h1 | h1
        · exact hno j hj h1 e
        · exact hjn x List.mem_cons_self h1
        · rcases h.all j hj with h2 | ⟨p, hp, rfl⟩ | ⟨y, hy, _, h2⟩
          · have := h.closed j x.ix h2 h1 hkl
            rw [hkn] at this; cases this
          · rw [h.pa p hp x List.mem_cons_self] at h1; cases h1
          · exact hjn y hy h2
    · obtain ⟨h1, h3⟩ := h.pq p hp o' ho'
      have hne : p.1 ≠ x.ix := hkp p hp
      have hpl := (h.inP p hp).1
      have hpak := h.pa p hp x List.mem_cons_self
      refine ⟨?_, fun t ht => ⟨?_, (h3 t ht).2⟩⟩
      · cases hq : p.2.2 with
        | inl v =>
          rw [hq] at h1
          refine ⟨h1.1, fun d hd => ?_⟩
          rw [hρ d]
          · exact h1.2 d hd
          · intro e
            exact hne (rf.dne p.1 x.ix d hpl hkl (by rw [dstAt_of ho']; exact hd) e)
        | inr R =>
          rw [hq] at h1
          refine ⟨h1.1, ?_⟩
          rcases List.mem_cons.1 h1.2 with h4 | h4
          · rw [← h4] at hx; cases hx
          · exact h4
      · rintro ⟨j, hj, ha, hd⟩
        rw [(h3 t ht).1 ⟨j, hj, ha, hd⟩]
        refine (hρ t fun e => ?_).symm
        have : j = x.ix := rf.dne j x.ix t hj hkl hd e
        subst this
        rw [hpak] at ha; cases ha
  · have hold : ∀ q ∈ D, (∃ p ∈ ((x.ix, ρf, kd) :: pend : List Pe), p.1 = q.1 ∧ p.2.2 = .inr q.2) ∨ (∃ e ∈ ear, e.1 = q.1 ∧ e.2.2.2 = q.2) ∨ (∀ y ∈ π, y.ix ≠ q.1) := by
      intro q hq
      rcases h.dl q hq with ⟨p, hp, h1⟩ | h1 | h1
      · exact .inl ⟨p, List.mem_cons_of_mem _ hp, h1⟩
      · exact .inr (.inl h1)
      · exact .inr (.inr fun y hy => h1 y (List.mem_cons_of_mem _ hy))
    cases kd with
    | inl v => rw [hD]; exact hold
    | inr R =>
      rw [hD]
      intro q hq
      rcases List.mem_cons.1 hq with rfl | hq
      · exact .inl ⟨_, List.mem_cons_self, rfl, rfl⟩
      · exact hold q hq
  · funext t
    unfold curF
    cases earV l ear t with
    | some v => rfl
    | none =>
      simp only [List.any_cons]
      by_cases e : dstAt l x.ix = some t
      · have hno : pend.any (fun p => dstAt l p.1 == some t) = false := by
          rw [List.any_eq_false]
          intro p hp
          simp only [beq_iff_eq]
          intro e2
          exact hkp p hp (rf.dne p.1 x.ix t (h.inP p hp).1 hkl e2 e)
        simp [e, hno, hbase t e]
      · have e1 : (dstAt l x.ix == some t) = false := by simpa using e
        rw [e1, Bool.false_or, hρ t e]

/-- What was made ahead of its time is had. -/
theorem InvF.absorb (rf : RegFacts l n b) {listed : Array Bool} {f : Nat} {π : List It} {D : List (Nat × Kd)} {pend : List Pe} {ear : List Ee} {ρf : Nat → Value} {Lp : List SProp} (h : InvF w0 A ro P l n ds b Lq ρ0 listed (.join f :: π) D pend ear ρf)
    (ho : okOrderF lou b (.join f :: π) = true) (hf : listed.getD f false = true) (hob : ObF w0 A ro P l n ds lou K (.join f :: π) D Lq ρf Lp) :
    ∃ ear' ρf' Lp', InvF w0 A ro P l n ds b Lq ρ0 listed π D pend ear' ρf' ∧ ObF w0 A ro P l n ds lou K π D Lq ρf' Lp' ∧ curF l ρ0 pend ear' ρf' = curF l ρ0 pend ear ρf ∧ (Lp ++ EL ear).Perm (Lp' ++ EL ear') := by
  simp only [ObF] at hob
  cases hk : l[f]? with
  | none => rw [hk] at hob; exact hob.elim
  | some o =>
    rw [hk] at hob
    obtain ⟨R, hR, hnext⟩ := hob
    have hfl : f < l.length := (List.getElem?_eq_some_iff.1 hk).1
    have hdf := dstAt_of hk
    simp only [okOrderF, Bool.and_eq_true, List.all_eq_true] at ho
    have hnj : ∀ y ∈ π, y.ix ≠ f := fun y hy e => by
      have h1 := ho.1.1 y hy
      have h2 := ho.1.2 y hy
      cases hj : y.isJ with
      | true => rw [hj] at h2; simp [e] at h2
      | false =>
        rw [hj] at h1
        simp only [Bool.false_or] at h1
        rw [e, rf.irr f hfl] at h1; cases h1
    have hpf : ∀ p ∈ pend, p.1 ≠ f := fun p hp e => by
      have := (h.inP p hp).2
      rw [e, hf] at this; cases this
    rcases h.dl (f, R) hR with ⟨p, hp, h1, _⟩ | ⟨e, he, h1, h2⟩ | h1
    · exact absurd h1 (hpf p hp)
    · obtain ⟨ea, eb, hee⟩ := List.append_of_mem he
      have h1 : e.1 = f := h1
      have h2 : e.2.2.2 = R := h2
      have hRv : R e.2.1 e.2.2.1 := h2 ▸ (h.inE e he).2.2.2
      have hnE := h.nE
      rw [hee, List.map_append, List.map_cons] at hnE
      have hsplit := List.nodup_append.1 hnE
      have hne : ∀ q ∈ ea ++ eb, q.1 ≠ f := by
        intro q hq e2
        rcases List.mem_append.1 hq with hq | hq
        · exact hsplit.2.2 q.1 (List.mem_map.2 ⟨q, hq, rfl⟩) e.1 List.mem_cons_self (by rw [e2, h1])
        · exact (List.nodup_cons.1 hsplit.2.1).1 (by rw [h1, ← e2]; exact List.mem_map.2 ⟨q, hq, rfl⟩)
      have hmem : ∀ q, q ∈ ea ++ eb → q ∈ ear := fun q hq => by
        rw [hee]
        rcases List.mem_append.1 hq with hq | hq
        · exact List.mem_append_left _ hq
        · exact List.mem_append_right _ (List.mem_cons_of_mem _ hq)
      have hmem' : ∀ q, q ∈ ear → q = e ∨ q ∈ ea ++ eb := fun q hq => by
        rw [hee] at hq
        rcases List.mem_append.1 hq with hq | hq
        · exact .inr (List.mem_append_left _ hq)
        · rcases List.mem_cons.1 hq with hq | hq
          · exact .inl hq
          · exact .inr (List.mem_append_right _ hq)
      refine ⟨ea ++ eb, updo ρf o.dst e.2.1, e.2.2.1 ++ Lp, ⟨h.sz, ?_, h.inP, ?_, ?_, h.nP, ?_, h.closed, ?_, ?_, ?_, ?_⟩, hnext _ _ hRv, ?_, ?_⟩
      · exact fun y hy hj => h.inπ y (List.mem_cons_of_mem _ hy) hj
      · intro q hq
        obtain ⟨a1, a2, a3, a4⟩ := h.inE q (hmem q hq)
        refine ⟨a1, a2, ?_, a4⟩
        rcases List.mem_cons.1 a3 with a3 | a3
        · exact absurd (by simpa using a3) (hne q hq)
        · exact a3
      · intro j hj
        rcases h.all j hj with a1 | a1 | ⟨y, hy, a1, a2⟩
        · exact .inl a1
        · exact .inr (.inl a1)
        · rcases List.mem_cons.1 hy with rfl | hy
          · cases a1
          · exact .inr (.inr ⟨y, hy, a1, a2⟩)
      · rw [List.map_append, List.nodup_append]
        exact ⟨hsplit.1, (List.nodup_cons.1 hsplit.2.1).2, fun x hx y hy => hsplit.2.2 x hx y (List.mem_cons_of_mem _ hy)⟩
      · intro t ht
        rw [updo_ne (by rw [← hdf]; exact ht f hfl hnj)]
        refine h.base t fun j hj hjn => ht j hj fun y hy => hjn y (List.mem_cons_of_mem _ hy)
      · exact fun p hp y hy => h.pa p hp y (List.mem_cons_of_mem _ hy)
      · intro p hp o' ho'
        obtain ⟨a1, a3⟩ := h.pq p hp o' ho'
        refine ⟨?_, fun t ht => ⟨?_, (a3 t ht).2⟩⟩
        · cases hq : p.2.2 with
          | inl v =>
            rw [hq] at a1
            refine ⟨a1.1, fun d hd => ?_⟩
            rw [updo_ne]
            · exact a1.2 d hd
            · intro e2
              exact hpf p hp (rf.dne p.1 f d (h.inP p hp).1 hfl (by rw [dstAt_of ho']; exact hd) (by rw [hdf]; exact e2))
          | inr R' =>
            rw [hq] at a1
            refine ⟨a1.1, ?_⟩
            rcases List.mem_cons.1 a1.2 with a4 | a4
            · exact absurd (by simpa using a4) (hpf p hp)
            · exact a4
        · rintro ⟨j, hj, ha, hd⟩
          rw [(a3 t ht).1 ⟨j, hj, ha, hd⟩]
          refine (updo_ne fun e2 => ?_).symm
          have : j = f := rf.dne j f t hj hfl hd (by rw [hdf]; exact e2)
          subst this
          have := h.pa p hp (.join j) List.mem_cons_self
          simp only [It.ix] at this
          rw [this] at ha; cases ha
      · intro q hq
        rcases h.dl q hq with a1 | ⟨e', he', a1, a2⟩ | a1
        · exact .inl a1
        · rcases hmem' e' he' with rfl | he'
          · exact .inr (.inr fun y hy => by rw [← a1, h1]; exact hnj y hy)
          · exact .inr (.inl ⟨e', he', a1, a2⟩)
        · exact .inr (.inr fun y hy => a1 y (List.mem_cons_of_mem _ hy))
      · funext t
        unfold curF
        by_cases e2 : dstAt l f = some t
        · have hl1 : earV l ear t = some e.2.1 := by
            cases hc : earV l ear t with
            | none =>
              exfalso
              unfold earV at hc
              rw [Option.map_eq_none_iff, List.find?_eq_none] at hc
              have := hc e he
              rw [h1, e2] at this
              simp at this
            | some v =>
              obtain ⟨e', he', b1, b2⟩ := earV_some hc
              have b3 : e'.1 = f := rf.dne e'.1 f t (h.inE e' he').1 hfl b1 e2
              rcases hmem' e' he' with rfl | he''
              · rw [b2]
              · exact absurd b3 (hne e' he'')
          have hl2 : earV l (ea ++ eb) t = none := earV_none fun q hq b1 => hne q hq (rf.dne q.1 f t (h.inE q (hmem q hq)).1 hfl b1 e2)
          have hno : pend.any (fun p => dstAt l p.1 == some t) = false := by
            rw [List.any_eq_false]
            intro p hp
            simp only [beq_iff_eq]
            intro b1
            exact hpf p hp (rf.dne p.1 f t (h.inP p hp).1 hfl b1 e2)
          rw [hl1, hl2]
          simp only [hno, cond_false]
          have : o.dst = some t := by rw [← hdf]; exact e2
          rw [this]
          simp [updo, upd_same]
        · have : earV l ear t = earV l (ea ++ eb) t := by rw [hee]; exact earV_drop (by rw [h1]; exact e2)
          rw [this, updo_ne (by rw [← hdf]; exact e2)]
      · rw [hee]
        simp only [EL, List.flatMap_append, List.flatMap_cons]
        have : (Lp ++ (List.flatMap (fun x : Ee => x.2.2.1) ea ++ (e.2.2.1 ++ List.flatMap (fun x : Ee => x.2.2.1) eb))).Perm (e.2.2.1 ++ (Lp ++ (List.flatMap (fun x : Ee => x.2.2.1) ea ++ List.flatMap (fun x : Ee => x.2.2.1) eb))) := by
          rw [← List.append_assoc Lp, ← List.append_assoc Lp]
          exact (List.perm_append_comm_assoc _ _ _)
        simpa using this
    · exact absurd rfl (h1 (.join f) List.mem_cons_self)

/-- Walked till i is reached. -/
theorem InvF.pops (rf : RegFacts l n b) {listed : Array Bool} {x0 : It} {πb : List It} (hx0 : x0.isJ = false) : ∀ (πa : List It) {D : List (Nat × Kd)} {pend : List Pe} {ear : List Ee} {ρf : Nat → Value} {Lp : List SProp}, InvF w0 A ro P l n ds b Lq ρ0 listed (πa ++ x0 :: πb) D pend ear ρf →
    okOrderF lou b (πa ++ x0 :: πb) = true → (∀ k, isAnc b x0.ix k = true → k < l.length → listed.getD k false = true) → ObF w0 A ro P l n ds lou K (πa ++ x0 :: πb) D Lq ρf Lp →
    ∃ D' pend' ear' ρf' Lp', InvF w0 A ro P l n ds b Lq ρ0 listed (x0 :: πb) D' pend' ear' ρf' ∧ okOrderF lou b (x0 :: πb) = true ∧ ObF w0 A ro P l n ds lou K (x0 :: πb) D' Lq ρf' Lp' ∧ curF l ρ0 pend' ear' ρf' = curF l ρ0 pend ear ρf ∧
      pend'.length = pend.length + (πa.filter fun y => !y.isJ).length ∧ (Lp ++ EL ear).Perm (Lp' ++ EL ear')
  | [], D, pend, ear, ρf, Lp, h, ho, _, hob => ⟨D, pend, ear, ρf, Lp, h, ho, hob, rfl, by simp, .refl _⟩
  | .join f :: πa, D, pend, ear, ρf, Lp, h, ho, hr, hob => by
    have ho' : okOrderF lou b (.join f :: (πa ++ x0 :: πb)) = true := ho
    have hlf : listed.getD f false = true := by
      have h1 := ho'
      simp only [okOrderF, Bool.and_eq_true, List.all_eq_true] at h1
      have h2 := h1.1.1 x0 (by simp)
      rw [hx0] at h2
      simp only [Bool.false_or] at h2
      have hff : f < l.length := by
        have hob' : ObF w0 A ro P l n ds lou K (.join f :: (πa ++ x0 :: πb)) D Lq ρf Lp := hob
        simp only [ObF] at hob'
        cases hc : l[f]? with
        | none => rw [hc] at hob'; exact hob'.elim
        | some o => exact (List.getElem?_eq_some_iff.1 hc).1
      exact hr f h2 hff
    obtain ⟨ear1, ρf1, Lp1, h1, hob1, hc1, hp1⟩ := InvF.absorb (π := πa ++ x0 :: πb) rf h ho' hlf hob
    obtain ⟨D', pend', ear', ρf', Lp', a1, a2, a3, a4, a5, a6⟩ := InvF.pops rf hx0 πa h1 (okF_tail ho') hr hob1
    exact ⟨D', pend', ear', ρf', Lp', a1, a2, a3, a4.trans hc1, by rw [a5]; simp [It.isJ], hp1.trans a6⟩
  | .dec k :: πa, D, pend, ear, ρf, Lp, h, ho, hr, hob => by
    have ho' : okOrderF lou b (.dec k :: (πa ++ x0 :: πb)) = true := ho
    have hob' : ObF w0 A ro P l n ds lou K (.dec k :: (πa ++ x0 :: πb)) D Lq ρf Lp := hob
    simp only [ObF] at hob'
    cases hk : l[k]? with
    | none => rw [hk] at hob'; exact hob'.elim
    | some o =>
      rw [hk] at hob'
      obtain ⟨R, hst, hrest⟩ := hob'
      have hj : It.join k ∈ πa ++ x0 :: πb := by
        have h1 := ho'
        simp only [okOrderF, Bool.and_eq_true, List.any_eq_true] at h1
        obtain ⟨y, hy, hy1, hy2⟩ := h1.1.1.1
        cases y with
        | op i => cases hy1
        | dec i => cases hy1
        | join i =>
          have : i = k := by simpa [It.ix] using hy2
          subst this; exact hy
      obtain ⟨hi, hc⟩ := InvF.push (x := .dec k) (π := πa ++ x0 :: πb) (kd := .inr R) (ρf' := ρf) rf h ho' rfl hk (fun _ _ => rfl) ⟨hst, hj, rfl⟩ rfl
      obtain ⟨D', pend', ear', ρf', Lp', a1, a2, a3, a4, a5, a6⟩ := InvF.pops rf hx0 πa hi (okF_tail ho') hr hrest
      exact ⟨D', pend', ear', ρf', Lp', a1, a2, a3, a4.trans hc, by rw [a5]; simp [It.isJ]; omega, a6⟩
  | .op k :: πa, D, pend, ear, ρf, Lp, h, ho, hr, hob => by
    have ho' : okOrderF lou b (.op k :: (πa ++ x0 :: πb)) = true := ho
    have hob' : ObF w0 A ro P l n ds lou K (.op k :: (πa ++ x0 :: πb)) D Lq ρf Lp := hob
    have h1 := ho'
    simp only [okOrderF, Bool.and_eq_true, List.all_eq_true] at h1
    have hq : lou.contains k = false := by
      cases hc : lou.contains k with
      | false => rfl
      | true =>
        have h1 := h1.1.1.1
        rw [hc] at h1
        simp only [Bool.not_true, Bool.false_or, List.all_eq_true] at h1
        have h2 := h1 x0 (by simp)
        rw [hx0] at h2
        simp only [Bool.false_or] at h2
        obtain ⟨h3, h4, _⟩ := h.inπ (.op k) (by simp) rfl
        have : listed.getD k false = true := hr k h2 h3
        simp only [It.ix] at h4
        rw [this] at h4; cases h4
    simp only [ObF] at hob'
    cases hk : l[k]? with
    | none => rw [hk] at hob'; exact hob'.elim
    | some o =>
      rw [hk] at hob'
      simp only [hq] at hob'
      obtain ⟨v, hst, hrest⟩ := hob'
      have hne : ∀ y ∈ πa ++ x0 :: πb, y.ix ≠ k := fun y hy => by
        have := h1.1.2 y hy
        simpa using this
      obtain ⟨hi, hc⟩ := InvF.push (x := .op k) (π := πa ++ x0 :: πb) (kd := .inl v) (ρf' := updo ρf o.dst v) rf h ho' rfl hk (fun t ht => updo_ne (by rw [← dstAt_of hk]; exact ht)) ⟨hst, fun d hd => by rw [hd]; simp [updo, upd_same], hne⟩ rfl
      obtain ⟨D', pend', ear', ρf', Lp', a1, a2, a3, a4, a5, a6⟩ := InvF.pops rf hx0 πa hi (okF_tail ho') hr hrest
      exact ⟨D', pend', ear', ρf', Lp', a1, a2, a3, a4.trans hc, by rw [a5]; simp [It.isJ]; omega, a6⟩

theorem nonJ_split {π : List It} {i : Nat} (h : ∃ x ∈ π, x.isJ = false ∧ x.ix = i) : ∃ πa x πb, π = πa ++ x :: πb ∧ x.isJ = false ∧ x.ix = i := by
  obtain ⟨x, hx, h1, h2⟩ := h
  obtain ⟨πa, πb, e⟩ := List.append_of_mem hx
  exact ⟨πa, x, πb, e, h1, h2⟩

/-- Nothing is left but what was made and is to be had. -/
theorem InvF.finish (rf : RegFacts l n b) {listed : Array Bool} : ∀ (π : List It) {D : List (Nat × Kd)} {ear : List Ee} {ρf : Nat → Value} {Lp : List SProp}, InvF w0 A ro P l n ds b Lq ρ0 listed π D [] ear ρf → okOrderF lou b π = true → (∀ x ∈ π, x.isJ = true) → (∀ j, j < l.length → listed.getD j false = true) →
    ObF w0 A ro P l n ds lou K π D Lq ρf Lp → ∃ ρ' Lp', K ρ' (Lq ++ Lp') ∧ ρ' = curF l ρ0 [] ear ρf ∧ (Lp ++ EL ear).Perm Lp'
  | [], D, ear, ρf, Lp, h, _, _, _, hob => by
    have he : ear = [] := by
      cases hc : ear with
      | nil => rfl
      | cons e r => have := (h.inE e (by rw [hc]; exact List.mem_cons_self)).2.2.1; cases this
    subst he
    refine ⟨ρf, Lp, hob, ?_, by simp [EL]⟩
    funext t
    simp [curF, earV]
  | x :: π, D, ear, ρf, Lp, h, ho, hj, hl, hob => by
    have hx := hj x List.mem_cons_self
    cases x with
    | op i => cases hx
    | dec i => cases hx
    | join f =>
      have hff : f < l.length := by
        have hob' := hob
        simp only [ObF] at hob'
        cases hc : l[f]? with
        | none => rw [hc] at hob'; exact hob'.elim
        | some o => exact (List.getElem?_eq_some_iff.1 hc).1
      obtain ⟨ear1, ρf1, Lp1, h1, hob1, hc1, hp1⟩ := InvF.absorb rf h ho (hl f hff) hob
      obtain ⟨ρ', Lp', a1, a2, a3⟩ := InvF.finish rf π h1 (okF_tail ho) (fun y hy => hj y (List.mem_cons_of_mem _ hy)) hl hob1
      exact ⟨ρ', Lp', a1, a2.trans hc1, hp1.trans a3⟩

theorem draw_soundF (rf : RegFacts l n b) (hbm : b = masks l []) {Q : Exit → Act → World → Prop} (hK : ∀ ρ L, K ρ L → G w0 A L (fun w => Q .normal (act n ρ ds) w)) :
    ∀ (k : Nat) (Lq : List SProp) (listed : Array Bool) (π : List It) (D : List (Nat × Kd)) (pend : List Pe) (ear : List Ee) (ρf : Nat → Value) (Lp : List SProp) (w : World), InvF w0 A ro P l n ds b Lq ρ0 listed π D pend ear ρf → okOrderF lou b π = true → ObF w0 A ro P l n ds lou K π D Lq ρf Lp →
      k = pend.length + (π.filter fun y => !y.isJ).length → Std w0 w → holds (star A (sl (Lq ++ (Lp ++ EL ear)))) w → wpAnyIn (WF ro) 0 P .any l.toArray Q k listed (act n (curF l ρ0 pend ear ρf) ds) w := by
  intro k
  induction k with
  | zero =>
    intro Lq listed π D pend ear ρf Lp w hI ho hob hk hw hh
    have hp : pend = [] := List.eq_nil_of_length_eq_zero (by omega)
    have hπ : (π.filter fun y => !y.isJ) = [] := List.eq_nil_of_length_eq_zero (by omega)
    rw [List.filter_eq_nil_iff] at hπ
    have hπ : ∀ x ∈ π, x.isJ = true := fun x hx => by simpa using hπ x hx
    subst hp
    have hl : ∀ j, j < l.length → listed.getD j false = true := fun j hj => by
      rcases hI.all j hj with h1 | ⟨p, hp, _⟩ | ⟨x, hx, h1, _⟩
      · exact h1
      · cases hp
      · rw [hπ x hx] at h1; cases h1
    refine ⟨?_, ?_⟩
    · unfold Region.ready
      rw [List.filter_eq_nil_iff]
      intro i hi
      have hil : i < l.length := by simpa using hi
      have h1 := hl i hil
      have h2 : listed.getD i true = true := by
        have his : i < listed.size := by rw [hI.sz]; exact hil
        simp [his] at h1 ⊢
        exact h1
      rw [h2]
      simp
    · obtain ⟨ρ', Lp', a1, a2, a3⟩ := InvF.finish rf π hI ho hπ hl hob
      rw [← a2]
      exact hK ρ' _ a1 w hw (hh.ent ((Ent.refl A).star (sl_perm (a3.append_left Lq))))
  | succ k ih =>
    intro Lq listed π D pend ear ρf Lp w hI ho hob hk hw hh
    have getT : ∀ i, i < l.length → listed.getD i true = listed.getD i false := fun i hi => by
      have his : i < listed.size := by rw [hI.sz]; exact hi
      simp [his]
    refine ⟨?_, ?_⟩
    · -- something is ready: the least that is not listed
      intro hnil
      exfalso
      obtain ⟨j, hj, hjl⟩ : ∃ j, j < l.length ∧ listed.getD j false = false := by
        cases hpd : pend with
        | cons p _ => exact ⟨p.1, (hI.inP p (by rw [hpd]; exact List.mem_cons_self)).1, (hI.inP p (by rw [hpd]; exact List.mem_cons_self)).2⟩
        | nil =>
          cases hf : (π.filter fun y => !y.isJ) with
          | cons x _ =>
            have hx : x ∈ π.filter fun y => !y.isJ := by rw [hf]; exact List.mem_cons_self
            rw [List.mem_filter] at hx
            have h1 := hI.inπ x hx.1 (by simpa using hx.2)
            exact ⟨x.ix, h1.1, h1.2.1⟩
          | nil => rw [hpd, hf] at hk; simp at hk
      have key : ∀ j, j < l.length → listed.getD j false = true := by
        intro j
        induction j using Nat.strongRecOn with
        | _ j ihj =>
          intro hj
          cases hc : listed.getD j false with
          | true => rfl
          | false =>
            have : j ∈ Region.ready .any l.toArray listed := by
              unfold Region.ready
              rw [List.mem_filter]
              refine ⟨by simpa using hj, ?_⟩
              rw [getT j hj, hc]
              simp only [Bool.not_false, Bool.true_and, List.getElem?_toArray, List.getElem?_eq_getElem hj, Option.map_some, Option.getD_some]
              rw [Array.all_eq_true_iff_forall_mem]
              intro e he
              cases hb : Region.binds .any e with
              | false => rfl
              | true =>
                have hlt := rf.back j l[j] (List.getElem?_eq_getElem hj) e he hb
                simpa using ihj e.on hlt (by omega)
            rw [hnil] at this; cases this
      rw [key j hj] at hjl; cases hjl
    · intro i hi
      unfold Region.ready at hi
      rw [List.mem_filter] at hi
      obtain ⟨hil, hi⟩ := hi
      have hil : i < l.length := by simpa using hil
      rw [getT i hil] at hi
      simp only [Bool.and_eq_true, List.getElem?_toArray, List.getElem?_eq_getElem hil, Option.map_some, Option.getD_some] at hi
      obtain ⟨hnl, hed⟩ := hi
      have hnl : listed.getD i false = false := by simpa using hnl
      rw [Array.all_eq_true_iff_forall_mem] at hed
      have hoi : l[i]? = some l[i] := List.getElem?_eq_getElem hil
      -- its ancestors are listed
      have hanc : ∀ j, isAnc b i j = true → j < l.length → listed.getD j false = true := by
        intro j ha hj
        obtain ⟨e, he, hb, hx⟩ := rf.step i l[i] hoi j hj ha
        have h1 := hed e he
        rw [hb] at h1
        simp only [Bool.not_true, Bool.false_or] at h1
        rcases hx with rfl | hx
        · exact h1
        · exact hI.closed e.on j h1 hx hj
      have hlsz : i < listed.size := by rw [hI.sz]; exact hil
      have hclosed' : ∀ x y, (listed.setIfInBounds i true).getD x false = true → isAnc b x y = true → y < l.length → (listed.setIfInBounds i true).getD y false = true := by
        intro x y hx ha hy
        rw [getD_set hlsz] at hx ⊢
        split
        · rfl
        · split at hx
          · rename_i e; subst e; exact hanc y ha hy
          · exact hI.closed x y hx ha hy
      have hopd := rf.op i l[i] hoi
      -- the case of an operation that has been walked and not run
      have pendCase : ∀ (π : List It) (D : List (Nat × Kd)) (pend : List Pe) (ear : List Ee) (ρf : Nat → Value) (Lp : List SProp), InvF w0 A ro P l n ds b Lq ρ0 listed π D pend ear ρf → okOrderF lou b π = true → ObF w0 A ro P l n ds lou K π D Lq ρf Lp → k + 1 = pend.length + (π.filter fun y => !y.isJ).length →
          holds (star A (sl (Lq ++ (Lp ++ EL ear)))) w → (∃ p ∈ pend, p.1 = i) → wpOpIn (WF ro) 0 P l.toArray Q i (wpAnyIn (WF ro) 0 P .any l.toArray Q k (listed.setIfInBounds i true)) (act n (curF l ρ0 pend ear ρf) ds) w := by
        rintro π D pend ear ρf Lp hI ho hob hk hh ⟨p, hp, hpi⟩
        obtain ⟨hst, hlk⟩ := hI.pq p hp l[i] (by rw [hpi]; exact hoi)
        have hearn : ∀ t ∈ (l[i]).looksAt l.toArray, earV l ear t = none := fun t ht => earV_none fun e he hed2 => by
          obtain ⟨h1, h2, h3, _⟩ := hI.inE e he
          rcases rf.look i l[i] hoi t ht e.1 h1 hed2 with h4 | h4 | h4
          · have := hI.pa p hp _ h3
            simp only [It.ix] at this
            rw [hpi, h4] at this; cases this
          · rw [← h4, hnl] at h2; cases h2
          · have := hI.closed e.1 i h2 h4 hil
            rw [hnl] at this; cases this
        have hcl : ∀ t ∈ (l[i]).looksAt l.toArray, curF l ρ0 pend ear ρf t = p.2.1 t := by
          intro t ht
          unfold curF
          rw [hearn t ht]
          simp only
          cases hany : pend.any (fun p => dstAt l p.1 == some t) with
          | true =>
            rw [cond_true]
            rw [List.any_eq_true] at hany
            obtain ⟨q, hq, hqd⟩ := hany
            have hqd : dstAt l q.1 = some t := by simpa using hqd
            refine ((hlk t ht).2 fun j hj ha e => ?_).symm
            have : j = q.1 := rf.dne j q.1 t hj (hI.inP q hq).1 e hqd
            rw [hpi] at ha
            rw [this] at ha
            have := hanc q.1 ha (hI.inP q hq).1
            rw [(hI.inP q hq).2] at this; cases this
          | false =>
            rw [cond_false]
            by_cases hex : ∃ j, j < l.length ∧ isAnc b p.1 j = true ∧ dstAt l j = some t
            · exact ((hlk t ht).1 hex).symm
            · have hno : ∀ j, j < l.length → isAnc b p.1 j = true → dstAt l j ≠ some t := fun j hj ha e => hex ⟨j, hj, ha, e⟩
              rw [(hlk t ht).2 hno]
              refine hI.base t fun j hj hjn e => ?_
              have hjp : ∀ q ∈ pend, q.1 ≠ j := fun q hq e2 => by
                have : pend.any (fun p => dstAt l p.1 == some t) = true := by
                  rw [List.any_eq_true]
                  exact ⟨q, hq, by rw [e2, e]; simp⟩
                rw [hany] at this; cases this
              rcases rf.look i l[i] hoi t ht j hj e with h1 | h1 | h1
              · exact hno j hj (by rw [hpi]; exact h1) e
              · exact hjp p hp (by rw [hpi, h1])
              · rcases hI.all j hj with h2 | ⟨q, hq, e2⟩ | ⟨y, hy, _, h2⟩
                · have := hI.closed j i h2 h1 hil
                  rw [hnl] at this; cases this
                · exact hjp q hq e2
                · exact hjn y hy h2
        obtain ⟨pa, pb, hpp⟩ := List.append_of_mem hp
        have hnP := hI.nP
        rw [hpp, List.map_append, List.map_cons] at hnP
        have hsplit := List.nodup_append.1 hnP
        have hne : ∀ q ∈ pa ++ pb, q.1 ≠ i := by
          intro q hq e
          rcases List.mem_append.1 hq with hq | hq
          · exact hsplit.2.2 q.1 (List.mem_map.2 ⟨q, hq, rfl⟩) p.1 List.mem_cons_self (by rw [e, hpi])
          · exact (List.nodup_cons.1 hsplit.2.1).1 (by rw [hpi, ← e]; exact List.mem_map.2 ⟨q, hq, rfl⟩)
        have hmem : ∀ q, q ∈ pa ++ pb → q ∈ pend := fun q hq => by
          rw [hpp]
          rcases List.mem_append.1 hq with hq | hq
          · exact List.mem_append_left _ hq
          · exact List.mem_append_right _ (List.mem_cons_of_mem _ hq)
        have hmem' : ∀ q, q ∈ pend → q = p ∨ q ∈ pa ++ pb := fun q hq => by
          rw [hpp] at hq
          rcases List.mem_append.1 hq with hq | hq
          · exact .inr (List.mem_append_left _ hq)
          · rcases List.mem_cons.1 hq with hq | hq
            · exact .inl hq
            · exact .inr (List.mem_append_right _ hq)
        have hanyd : ∀ t, (l[i]).dst ≠ some t → pend.any (fun p => dstAt l p.1 == some t) = (pa ++ pb).any (fun p => dstAt l p.1 == some t) := fun t e => by
          have hpd : (dstAt l p.1 == some t) = false := by rw [hpi, dstAt_of hoi]; simpa using e
          rw [hpp]
          simp [hpd]
        have hanyn : ∀ t, (l[i]).dst = some t → (pa ++ pb).any (fun p => dstAt l p.1 == some t) = false := fun t e => by
          rw [List.any_eq_false]
          intro q hq
          simp only [beq_iff_eq]
          intro e2
          exact hne q hq (rf.dne q.1 i t (hI.inP q (hmem q hq)).1 hil e2 (by rw [dstAt_of hoi]; exact e))
        have hearn' : ∀ t, (l[i]).dst = some t → ∀ e ∈ ear, dstAt l e.1 ≠ some t := fun t e e' he' e2 => by
          obtain ⟨h1, h2, _, _⟩ := hI.inE e' he'
          have := rf.dne e'.1 i t h1 hil e2 (by rw [dstAt_of hoi]; exact e)
          rw [this, hnl] at h2; cases h2
        have keepπ : ∀ y ∈ π, y.isJ = false → y.ix < l.length ∧ (listed.setIfInBounds i true).getD y.ix false = false ∧ ∀ q ∈ pa ++ pb, q.1 ≠ y.ix := by
          intro y hy hj
          obtain ⟨h1, h2, h3⟩ := hI.inπ y hy hj
          have hji : y.ix ≠ i := fun e => h3 p hp (by rw [hpi, e])
          exact ⟨h1, by rw [getD_set hlsz, if_neg hji]; exact h2, fun q hq => h3 q (hmem q hq)⟩
        have keepP : ∀ q ∈ pa ++ pb, q.1 < l.length ∧ (listed.setIfInBounds i true).getD q.1 false = false := by
          intro q hq
          obtain ⟨h1, h2⟩ := hI.inP q (hmem q hq)
          exact ⟨h1, by rw [getD_set hlsz, if_neg (hne q hq)]; exact h2⟩
        have keepL : ∀ j, listed.getD j false = true → (listed.setIfInBounds i true).getD j false = true := fun j hj => by
          rw [getD_set hlsz]; split <;> simp_all
        have keepAll : ∀ j, j < l.length → (listed.setIfInBounds i true).getD j false = true ∨ (∃ q ∈ pa ++ pb, q.1 = j) ∨ ∃ x ∈ π, x.isJ = false ∧ x.ix = j := by
          intro j hj
          by_cases e : j = i
          · left; rw [getD_set hlsz, if_pos e]
          · rcases hI.all j hj with h1 | ⟨q, hq, e2⟩ | h1
            · exact .inl (keepL j h1)
            · rcases hmem' q hq with rfl | hq'
              · exact absurd (e2.symm.trans hpi) e
              · exact .inr (.inl ⟨q, hq', e2⟩)
            · exact .inr (.inr h1)
        have keepN : ((pa ++ pb).map (·.1)).Nodup := by
          rw [List.map_append, List.nodup_append]
          exact ⟨hsplit.1, (List.nodup_cons.1 hsplit.2.1).2, fun x hx y hy => hsplit.2.2 x hx y (List.mem_cons_of_mem _ hy)⟩
        have hlen : k = (pa ++ pb).length + (π.filter fun y => !y.isJ).length := by rw [hpp] at hk; simp at hk ⊢; omega
        cases hkd : p.2.2 with
        | inl v0 =>
          rw [hkd] at hst
          have hrun := (hst.1 (Lp ++ EL ear)).run (ρ' := curF l ρ0 pend ear ρf) (by intro c e; rw [e] at hopd; cases hopd) (by intro cs bb e; rw [e] at hopd; cases hopd) (rf.dlt i l[i] hoi) hcl hw hh
            (next := wpAnyIn (WF ro) 0 P .any l.toArray Q k (listed.setIfInBounds i true)) (Q := Q) (fun v u M w' hr hvu hw' hh' => ?_)
          · unfold wpOpIn
            simp only [List.getElem?_toArray, hoi]
            split
            · rename_i hwant; rw [if_pos hwant] at hrun; exact hrun
            · rename_i hwant; rw [if_neg hwant] at hrun; exact ⟨fun _ _ => trivial, hrun⟩
          · obtain ⟨rfl, rfl⟩ := hr
            have hcur : updo (curF l ρ0 pend ear ρf) (l[i]).dst v = curF l ρ0 (pa ++ pb) ear ρf := by
              funext t
              by_cases e : (l[i]).dst = some t
              · rw [e]
                simp only [updo, upd_same, curF, hanyn t e, earV_none (hearn' t e), cond_false]
                rw [hvu t e]
                exact (hst.2 t e).symm
              · rw [updo_ne e]
                unfold curF
                rw [hanyd t e]
            rw [hcur]
            refine ih Lq (listed.setIfInBounds i true) π D (pa ++ pb) ear ρf Lp w' ?_ ho hob hlen hw' hh'
            refine ⟨by simpa using hI.sz, keepπ, keepP, ?_, keepAll, keepN, hI.nE, hclosed', hI.base, fun q hq => hI.pa q (hmem q hq), fun q hq => hI.pq q (hmem q hq), ?_⟩
            · intro e he
              obtain ⟨h1, h2, h3⟩ := hI.inE e he
              exact ⟨h1, keepL _ h2, h3⟩
            · intro q hq
              rcases hI.dl q hq with ⟨p', hp', h1, h2⟩ | h1
              · rcases hmem' p' hp' with rfl | hp''
                · rw [hkd] at h2; cases h2
                · exact .inl ⟨p', hp'', h1, h2⟩
              · exact .inr h1
        | inr R =>
          rw [hkd] at hst
          have hrun := (hst.1 (Lp ++ EL ear)).run (ρ' := curF l ρ0 pend ear ρf) (by intro c e; rw [e] at hopd; cases hopd) (by intro cs bb e; rw [e] at hopd; cases hopd) (rf.dlt i l[i] hoi) hcl hw hh
            (next := wpAnyIn (WF ro) 0 P .any l.toArray Q k (listed.setIfInBounds i true)) (Q := Q) (fun v u M w' hr hvu hw' hh' => ?_)
          · unfold wpOpIn
            simp only [List.getElem?_toArray, hoi]
            split
            · rename_i hwant; rw [if_pos hwant] at hrun; exact hrun
            · rename_i hwant; rw [if_neg hwant] at hrun; exact ⟨fun _ _ => trivial, hrun⟩
          · obtain ⟨M', hM, hR⟩ := hr
            have hcur : updo (curF l ρ0 pend ear ρf) (l[i]).dst v = curF l ρ0 (pa ++ pb) ((i, u, M', R) :: ear) ρf := by
              funext t
              by_cases e : (l[i]).dst = some t
              · rw [e]
                have : earV l ((i, u, M', R) :: ear) t = some u := earV_head (e := (i, u, M', R)) (by rw [dstAt_of hoi]; exact e)
                simp only [updo, upd_same, curF, this]
                exact hvu t e
              · rw [updo_ne e]
                unfold curF
                rw [hanyd t e, earV_cons (e := (i, u, M', R)) (by rw [dstAt_of hoi]; exact e)]
            rw [hcur]
            refine ih Lq (listed.setIfInBounds i true) π D (pa ++ pb) ((i, u, M', R) :: ear) ρf Lp w' ?_ ho hob hlen hw' ?_
            · refine ⟨by simpa using hI.sz, keepπ, keepP, ?_, keepAll, keepN, ?_, hclosed', hI.base, fun q hq => hI.pa q (hmem q hq), fun q hq => hI.pq q (hmem q hq), ?_⟩
              · intro e he
                rcases List.mem_cons.1 he with rfl | he
                · exact ⟨hil, by rw [getD_set hlsz, if_pos rfl], by have := hst.2; rwa [hpi] at this, hR⟩
                · obtain ⟨h1, h2, h3⟩ := hI.inE e he
                  exact ⟨h1, keepL _ h2, h3⟩
              · rw [List.map_cons, List.nodup_cons]
                refine ⟨fun hm => ?_, hI.nE⟩
                obtain ⟨e, he, h1⟩ := List.mem_map.1 hm
                have h2 := (hI.inE e he).2.1
                have h1 : e.1 = i := h1
                rw [h1, hnl] at h2; cases h2
              · intro q hq
                rcases hI.dl q hq with ⟨p', hp', h1, h2⟩ | ⟨e, he, h1⟩ | h1
                · rcases hmem' p' hp' with rfl | hp''
                  · rw [hkd] at h2
                    exact .inr (.inl ⟨_, List.mem_cons_self, by show i = q.1; rw [← h1, hpi], by show R = q.2; exact Sum.inr.inj h2⟩)
                  · exact .inl ⟨p', hp'', h1, h2⟩
                · exact .inr (.inl ⟨e, List.mem_cons_of_mem _ he, h1⟩)
                · exact .inr (.inr h1)
            · refine (hh'.ent ((Ent.refl A).star hM)).ent ((Ent.refl A).star (sl_perm ?_))
              show (Lq ++ ((Lp ++ EL ear) ++ M')).Perm (Lq ++ (Lp ++ (M' ++ EL ear)))
              refine List.Perm.append_left _ ?_
              rw [List.append_assoc]
              exact List.Perm.append_left _ List.perm_append_comm
      rcases hI.all i hil with h1 | h1 | h1
      · rw [hnl] at h1; cases h1
      · exact pendCase π D pend ear ρf Lp hI ho hob (by omega) hh h1
      · obtain ⟨πa, x0, πb, hπ, hx0, hxi⟩ := nonJ_split h1
        subst hπ
        obtain ⟨D', pend', ear', ρf', Lp', hI', ho', hob', hcur, hlen, hperm⟩ := InvF.pops rf hx0 πa hI ho (by rw [hxi]; exact hanc) hob
        rw [← hcur]
        replace hh := hh.ent ((Ent.refl A).star (sl_perm (hperm.append_left Lq)))
        have hk' : k + 1 = pend'.length + ((x0 :: πb).filter fun y => !y.isJ).length := by
          rw [hlen]
          simp only [List.filter_append, List.length_append] at hk
          omega
        cases x0 with
        | join j => cases hx0
        | dec j =>
          have hji : j = i := hxi
          subst hji
          have hob2 := hob'
          simp only [ObF, hoi] at hob2
          obtain ⟨R, hst, hrest⟩ := hob2
          have hj : It.join j ∈ πb := by
            have h1 := ho'
            simp only [okOrderF, Bool.and_eq_true, List.any_eq_true] at h1
            obtain ⟨y, hy, hy1, hy2⟩ := h1.1.1.1
            cases y with
            | op i => cases hy1
            | dec i => cases hy1
            | join i =>
              have : i = j := by simpa [It.ix] using hy2
              subst this; exact hy
          obtain ⟨hI2, hc2⟩ := InvF.push (x := .dec j) (kd := .inr R) (ρf' := ρf') rf hI' ho' rfl hoi (fun _ _ => rfl) ⟨hst, hj, rfl⟩ rfl
          rw [← hc2]
          exact pendCase πb _ _ _ _ Lp' hI2 (okF_tail ho') hrest (by simp [It.isJ] at hk' ⊢; omega) hh ⟨_, List.mem_cons_self, rfl⟩
        | op j =>
          have hji : j = i := hxi
          subst hji
          have hne : ∀ y ∈ πb, y.ix ≠ j := fun y hy => by
            have h1 := ho'
            simp only [okOrderF, Bool.and_eq_true, List.all_eq_true] at h1
            simpa using h1.1.2 y hy
          cases hl : lou.contains j with
          | false =>
            have hob2 := hob'
            simp only [ObF, hoi, hl] at hob2
            obtain ⟨v, hst, hrest⟩ := hob2
            obtain ⟨hI2, hc2⟩ := InvF.push (x := .op j) (kd := .inl v) (ρf' := updo ρf' (l[j]).dst v) rf hI' ho' rfl hoi (fun t ht => updo_ne (by rw [← dstAt_of hoi]; exact ht)) ⟨hst, fun d hd => by rw [hd]; simp [updo, upd_same], hne⟩ rfl
            rw [← hc2]
            exact pendCase πb _ _ _ _ Lp' hI2 (okF_tail ho') hrest (by simp [It.isJ] at hk' ⊢; omega) hh ⟨_, List.mem_cons_self, rfl⟩
          | true =>
            simp only [ObF, hoi, hl, if_true] at hob'
            have hancs := okF_anc ho' rfl
            obtain ⟨hπl, hπn, hπp⟩ := hI'.inπ (.op j) List.mem_cons_self rfl
            simp only [It.ix] at hπl hπn hπp hancs
            have hcl : ∀ t ∈ (l[j]).looksAt l.toArray, curF l ρ0 pend' ear' ρf' t = ρf' t := by
              intro t ht
              unfold curF
              have hen : earV l ear' t = none := earV_none fun e he hed2 => by
                obtain ⟨h1, h2, h3, _⟩ := hI'.inE e he
                rcases rf.look j l[j] hoi t ht e.1 h1 hed2 with h4 | h4 | h4
                · rcases List.mem_cons.1 h3 with h5 | h5
                  · cases h5
                  · have := hancs _ h5
                    simp only [It.ix] at this
                    rw [h4] at this; cases this
                · rw [← h4, hnl] at h2; cases h2
                · have := hI'.closed e.1 j h2 h4 hil
                  rw [hnl] at this; cases this
              have hno : pend'.any (fun p => dstAt l p.1 == some t) = false := by
               rw [List.any_eq_false]
               intro q hq
               simp only [beq_iff_eq]
               intro hqd
               have hql := (hI'.inP q hq).1
               rcases rf.look j l[j] hoi t ht q.1 hql hqd with h2 | h2 | h2
               · have := hanc q.1 h2 hql
                 rw [(hI'.inP q hq).2] at this; cases this
               · exact hπp q hq h2.symm
               · have := hI'.pa q hq (.op j) List.mem_cons_self
                 simp only [It.ix] at this
                 rw [this] at h2; cases h2
              rw [hen, hno]
              rfl
            have hh1 : holds (star (star A (sl (EL ear'))) (sl (Lq ++ Lp'))) w := by
              refine hh.ent ?_
              refine ((Ent.refl A).star ((sl_perm (show (Lq ++ (Lp' ++ EL ear')).Perm (EL ear' ++ (Lq ++ Lp')) from ?_)).trans (sl_append_to _ _))).trans (Ent.assoc' _ _ _)
              rw [← List.append_assoc]
              exact List.perm_append_comm
            have hrun := (hob' (sl (EL ear'))).run (ρ' := curF l ρ0 pend' ear' ρf') (by intro c e; rw [e] at hopd; cases hopd) (by intro cs bb e; rw [e] at hopd; cases hopd) (rf.dlt j l[j] hoi) hcl hw hh1
              (next := wpAnyIn (WF ro) 0 P .any l.toArray Q k (listed.setIfInBounds j true)) (Q := Q) (fun v u M w' hr hvu hw' hh' => ?_)
            · unfold wpOpIn
              simp only [List.getElem?_toArray, hoi]
              split
              · rename_i hwant; rw [if_pos hwant] at hrun; exact hrun
              · rename_i hwant; rw [if_neg hwant] at hrun; exact ⟨fun _ _ => trivial, hrun⟩
            · obtain ⟨Lq2, Lp2, he, hsy, hob2⟩ := hr
              have hp0 : Lq2 = Lq ∨ pend' = [] := hsy.imp id fun hs => by
                cases hpd : pend' with
                | nil => rfl
                | cons q rest =>
                  exfalso
                  have hq : q ∈ pend' := by rw [hpd]; exact List.mem_cons_self
                  obtain ⟨hql, hqn⟩ := hI'.inP q hq
                  rw [← hbm] at hs
                  simp only [okSyncF, List.all_eq_true, List.mem_range, Bool.or_eq_true, beq_iff_eq, List.any_eq_true, Bool.and_eq_true] at hs
                  rcases hs q.1 hql with ⟨y, hy, h1, h2⟩ | h2 | h2
                  · exact (hI'.inπ y (List.mem_cons_of_mem _ hy) (by simpa using h1)).2.2 q hq h2.symm
                  · exact hπp q hq h2
                  · rw [hanc q.1 h2 hql] at hqn; cases hqn
              have hh2 : holds (star A (sl (Lq2 ++ (Lp2 ++ EL ear')))) w' := by
                refine (hh'.ent ((Ent.refl _).star he)).ent ?_
                refine (Ent.assoc _ _ _).trans ((Ent.refl A).star ((sl_append_of _ _).trans (sl_perm (show (EL ear' ++ (Lq2 ++ Lp2)).Perm (Lq2 ++ (Lp2 ++ EL ear')) from ?_))))
                exact List.perm_append_comm.trans (by rw [List.append_assoc])
              have hnd : ∀ q ∈ pend', ∀ t, (l[j]).dst = some t → dstAt l q.1 ≠ some t := fun q hq t e e2 =>
                hπp q hq (rf.dne q.1 j t (hI'.inP q hq).1 hil e2 (by rw [dstAt_of hoi]; exact e))
              have hnde : ∀ t, (l[j]).dst = some t → ∀ e ∈ ear', dstAt l e.1 ≠ some t := fun t e e' he' e2 => by
                obtain ⟨h1, h2, _, _⟩ := hI'.inE e' he'
                have := rf.dne e'.1 j t h1 hil e2 (by rw [dstAt_of hoi]; exact e)
                rw [this, hnl] at h2; cases h2
              have hcur2 : updo (curF l ρ0 pend' ear' ρf') (l[j]).dst v = curF l ρ0 pend' ear' (updo ρf' (l[j]).dst u) := by
                funext t
                by_cases e : (l[j]).dst = some t
                · have h2 : pend'.any (fun p => dstAt l p.1 == some t) = false := by
                    rw [List.any_eq_false]
                    intro q hq
                    simp only [beq_iff_eq]
                    exact hnd q hq t e
                  rw [e]
                  simp only [updo, upd_same, curF, h2, earV_none (hnde t e), cond_false]
                  rw [hvu t e]
                · rw [updo_ne e]
                  unfold curF
                  rw [updo_ne e]
              rw [hcur2]
              refine ih Lq2 (listed.setIfInBounds j true) πb D' pend' ear' _ Lp2 w' ?_ (okF_tail ho') hob2 (by simp [It.isJ] at hk' ⊢; omega) hw' hh2
              refine ⟨by simpa using hI'.sz, ?_, ?_, ?_, ?_, hI'.nP, hI'.nE, hclosed', ?_, ?_, ?_, ?_⟩
              · intro y hy hyj
                obtain ⟨h2, h3, h4⟩ := hI'.inπ y (List.mem_cons_of_mem _ hy) hyj
                exact ⟨h2, by rw [getD_set hlsz, if_neg (hne y hy)]; exact h3, h4⟩
              · intro q hq
                obtain ⟨h2, h3⟩ := hI'.inP q hq
                exact ⟨h2, by rw [getD_set hlsz, if_neg (hπp q hq)]; exact h3⟩
              · intro e he2
                obtain ⟨h1, h2, h3, h4⟩ := hI'.inE e he2
                refine ⟨h1, by rw [getD_set hlsz]; split <;> simp_all, ?_, h4⟩
                rcases List.mem_cons.1 h3 with h5 | h5
                · cases h5
                · exact h5
              · intro i' hi'
                rw [getD_set hlsz]
                by_cases e : i' = j
                · left; rw [if_pos e]
                · rw [if_neg e]
                  rcases hI'.all i' hi' with h2 | h2 | ⟨y, hy, h2, h3⟩
                  · exact .inl h2
                  · exact .inr (.inl h2)
                  · rcases List.mem_cons.1 hy with rfl | hy
                    · exact absurd h3.symm e
                    · exact .inr (.inr ⟨y, hy, h2, h3⟩)
              · intro t ht
                rw [updo_ne (by rw [← dstAt_of hoi]; exact ht j hil hne)]
                exact hI'.base t fun i' hi' hjn => ht i' hi' fun y hy => hjn y (List.mem_cons_of_mem _ hy)
              · intro q hq y hy
                exact hI'.pa q hq y (List.mem_cons_of_mem _ hy)
              · intro q hq o' ho2
                rcases hp0 with hp0 | hp0
                case inr => rw [hp0] at hq; cases hq
                subst hp0
                obtain ⟨h2, h4⟩ := hI'.pq q hq o' ho2
                refine ⟨?_, fun t ht => ⟨?_, (h4 t ht).2⟩⟩
                · cases hkq : q.2.2 with
                  | inl v1 =>
                    rw [hkq] at h2
                    refine ⟨h2.1, fun d hd => ?_⟩
                    rw [updo_ne]
                    · exact h2.2 d hd
                    · intro e; exact hnd q hq d e (by rw [dstAt_of ho2]; exact hd)
                  | inr R1 =>
                    rw [hkq] at h2
                    refine ⟨h2.1, ?_⟩
                    rcases List.mem_cons.1 h2.2 with h5 | h5
                    · cases h5
                    · exact h5
                · rintro ⟨i', hi', ha, hd⟩
                  rw [(h4 t ht).1 ⟨i', hi', ha, hd⟩]
                  refine (updo_ne fun e => ?_).symm
                  have : i' = j := rf.dne i' j t hi' hil hd (by rw [dstAt_of hoi]; exact e)
                  subst this
                  have := hI'.pa q hq (.op i') List.mem_cons_self
                  simp only [It.ix] at this
                  rw [this] at ha; cases ha
              · intro q hq
                rcases hI'.dl q hq with h2 | h2 | h2
                · exact .inl h2
                · exact .inr (.inl h2)
                · exact .inr (.inr fun y hy => h2 y (List.mem_cons_of_mem _ hy))

/-- **A region that draws its order, with operations that float.** -/
theorem g_drawF {L : List SProp} {Q : Exit → Act → World → Prop} {ρ : Nat → Value} {id : Nat} {l : List Oper} (lou : List Nat) (π : List It) (Lq : List SProp) {Lp : List SProp} (hm : P.follows .mixedOrders = true)
    (hok : (okRegion l n (masks l []) && okOrderF lou (masks l []) π && okPermF l.length π) = true) [tk : Take L Lq Lp]
    (h : ObF w0 A ro P l n ds lou (fun ρ' L' => G w0 A L' (fun w => Q .normal (act n ρ' ds) w)) π [] Lq ρ Lp) :
    G w0 A L (fun w => (Code.region id l.toArray true).wpIn (WF ro) 0 P Q (act n ρ ds) w) := by
  simp only [Bool.and_eq_true] at hok
  obtain ⟨⟨h1, h2⟩, h3⟩ := hok
  refine G.perm tk.perm fun w hw hh => ?_
  refine wpIn_region_any hm ?_
  simp only [okPermF, Bool.and_eq_true, beq_iff_eq, List.all_eq_true, List.mem_range, List.any_eq_true] at h3
  obtain ⟨⟨hlen, hall⟩, hlt⟩ := h3
  have hrep : ∀ j, (Array.replicate l.toArray.size false).getD j false = false := fun j => by
    simp only [Array.getD_eq_getD_getElem?, Array.getElem?_replicate]
    split <;> rfl
  have := draw_soundF (ro := ro) (P := P) (ρ0 := ρ) (RegFacts.of h1) rfl (Q := Q) (fun _ _ x => x) l.toArray.size Lq (Array.replicate l.toArray.size false) π [] [] [] ρ Lp w.drew ?_ h2 h (by simp [hlen]) (hw.trans (.drew w)) ((hh.le (Le.refl _)).ent (by simp only [EL, List.flatMap_nil, List.append_nil]; exact Ent.refl _))
  · have e : curF l ρ [] [] ρ = ρ := by funext t; simp [curF, earV]
    rw [e] at this
    exact this
  · refine ⟨by simp, ?_, by simp, by simp, ?_, by simp, by simp, ?_, ?_, by simp, by simp, by simp⟩
    · intro x hx _
      have := hlt x hx
      rw [Nat.blt_eq] at this
      exact ⟨this, hrep _, by simp⟩
    · intro j hj
      obtain ⟨x, hx, h4, h5⟩ := hall j hj
      exact .inr (.inr ⟨x, hx, by simpa using h4, h5⟩)
    · intro i j hi
      rw [hrep i] at hi; cases hi
    · intro t _
      rfl

variable {Lq : List SProp} {i : Nat} {π : List It} {D : List (Nat × Kd)} {ρ : Nat → Value} {Lp : List SProp} {o : Oper}
theorem obf_nil (h : K ρ (Lq ++ Lp)) : ObF w0 A ro P l n ds lou K [] D Lq ρ Lp := h
theorem obf_q (hi : l[i]? = some o) (hl : lou.contains i = false) (h : ∃ v, (∀ X, OStep w0 A ro P l.toArray n ds ρ (Lq ++ X) o (fun u M => u = v ∧ M = Lq ++ X)) ∧ ObF w0 A ro P l n ds lou K π D Lq (updo ρ o.dst v) Lp) :
    ObF w0 A ro P l n ds lou K (.op i :: π) D Lq ρ Lp := by
  simp only [ObF, hi, hl]
  exact h
theorem obf_l (hi : l[i]? = some o) (hl : lou.contains i = true) (h : ∀ X, OStep w0 (star A X) ro P l.toArray n ds ρ (Lq ++ Lp) o (fun v M => ∃ Lp', Ent (sl M) (sl (Lq ++ Lp')) ∧ ObF w0 A ro P l n ds lou K π D Lq (updo ρ o.dst v) Lp')) :
    ObF w0 A ro P l n ds lou K (.op i :: π) D Lq ρ Lp := by
  simp only [ObF, hi, hl, if_true]
  exact fun X Q hn => h X Q fun v M ⟨Lp', h1, h2⟩ => hn v M ⟨Lq, Lp', h1, .inl rfl, h2⟩
theorem obf_s (Lq' : List SProp) (hi : l[i]? = some o) (hl : lou.contains i = true) (hs : okSyncF (masks l []) l.length i π = true)
    (h : ∀ X, OStep w0 (star A X) ro P l.toArray n ds ρ (Lq ++ Lp) o (fun v M => ∃ Lp', Ent (sl M) (sl (Lq' ++ Lp')) ∧ ObF w0 A ro P l n ds lou K π D Lq' (updo ρ o.dst v) Lp')) :
    ObF w0 A ro P l n ds lou K (.op i :: π) D Lq ρ Lp := by
  simp only [ObF, hi, hl, if_true]
  exact fun X Q hn => h X Q fun v M ⟨Lp', h1, h2⟩ => hn v M ⟨Lq', Lp', h1, .inr hs, h2⟩
/-- A floating operation is told: what is said of what it makes. -/
theorem obf_d (R : Kd) (hi : l[i]? = some o) (h : ∀ X, OStep w0 A ro P l.toArray n ds ρ (Lq ++ X) o (fun v M => ∃ M', Ent (sl M) (sl (Lq ++ (X ++ M'))) ∧ R v M')) (k : ObF w0 A ro P l n ds lou K π ((i, R) :: D) Lq ρ Lp) :
    ObF w0 A ro P l n ds lou K (.dec i :: π) D Lq ρ Lp := by
  simp only [ObF, hi]
  exact ⟨R, h, k⟩
theorem obf_j {R : Kd} (hi : l[i]? = some o) (hR : (i, R) ∈ D) (h : ∀ v M, R v M → ObF w0 A ro P l n ds lou K π D Lq (updo ρ o.dst v) (M ++ Lp)) : ObF w0 A ro P l n ds lou K (.join i :: π) D Lq ρ Lp := by
  simp only [ObF, hi]
  exact ⟨R, hR, h⟩
end
end Go.Sl
/- Literals that stay, and other short cuts. Plain library, no program in sight. -/
namespace Go.Sl
open Go Go.Proofs Go.RowKit

section
variable {w0 : World} {A : SProp} {L : List SProp} {ro : Option Nat} {P : Program} {Q : Exit → Act → World → Prop} {all : Array Oper} {os : List Oper} {n : Nat} {ρ : Nat → Value} {ds : List Nat}
variable {d : Option Tmp} {ty : TypeId} {pos : String} {af : Array Edge} {x y : Operand}
variable {α : Type} {enc : α → List Value} {sz : Nat} {xs : List α} {S : Option Addr}
/-- A truth value moved: both ways are walked. -/
theorem o_moveB {x : Operand} {b : Bool} (hx : ev n ρ x = .bool b) (h1 : b = true → G w0 A L (fun w => runL ro P all Q os (act n (updo ρ d (.bool true)) ds) w)) (h0 : b = false → G w0 A L (fun w => runL ro P all Q os (act n (updo ρ d (.bool false)) ds) w)) :
    G w0 A L (fun w => runL ro P all Q ({ dst := d, op := .move x, type := ty, pos := pos, after := af, guard := none } :: os) (act n ρ ds) w) :=
  o_move (by
    rw [hx]
    cases b with
    | true => exact h1 rfl
    | false => exact h0 rfl)
theorem o_slen {t : TypeId} {tys : Array TypeId} {s : ByteArray} (hx : ev n ρ x = .string s) (ht : tys = #[t]) (hu : P.underlying t = some .string)
    (h : G w0 A L (fun w => runL ro P all Q os (act n (updo ρ d (.int .i64 (s.size : Int))) ds) w)) :
    G w0 A L (fun w => runL ro P all Q ({ dst := d, op := .call { callee := .builtin .len, args := #[x], argTypes := tys }, type := ty, pos := pos, after := af, guard := none } :: os) (act n ρ ds) w) :=
  o_val rfl (by intro c e; cases e) (fun w _ _ => by
    subst ht
    simp only [execOp, resolve, List.map_toArray, List.map_cons, List.map_nil, hx]
    simp [invoke, builtin, Builtin.len_, run_underlying hu, goInt]) h
/-- A text's byte. -/
def byteN (s : ByteArray) (i : Nat) : Nat := if h : i < s.size then (s[i]'h).toNat else 0
theorem o_sindex {t : TypeId} {s : ByteArray} {kd : IntKind} {m : Int} {i : Nat} (hx : ev n ρ x = .string s) (hy : ev n ρ y = .int kd m) (hm : m = (i : Int)) (hi : i < s.size) (hu : P.underlying t = some .string)
    (h : G w0 A L (fun w => runL ro P all Q os (act n (updo ρ d (.int .u8 (byteN s i : Int))) ds) w)) :
    G w0 A L (fun w => runL ro P all Q ({ dst := d, op := .index t x y, type := ty, pos := pos, after := af, guard := none } :: os) (act n ρ ds) w) :=
  o_val rfl (by intro c e; cases e) (fun w _ _ => by
    subst hm
    simp only [execOp]
    refine run_v ?_
    rw [hx, hy, run_index_string w t s kd _ hu, dif_pos ⟨by omega, by omega⟩]
    simp [byteN, hi]) h
/-- A literal that stays as it is. -/
theorem o_litP {t e : TypeId} {len : Nat} {parts : Array (Nat × Operand)} (enc : α → List Value) (xs : List α) (cs : Array Value) (hr : ∀ w, (Instr.buildSlice t len (parts.map fun (i, x) => (i, ev n ρ x))).run P w = .ok (.slice (some ⟨w.heap.size, 0, none⟩) len len) (w.alloc (.cells cs e)))
    [en : EncLen enc sz] (hcs : cs.toList = xs.flatMap enc) (hm : xs.length ≤ maxLen)
    (h : ∀ b, G w0 A (psl enc sz (some ⟨b, 0, none⟩) xs :: L) (fun w => runL ro P all Q os (act n (updo ρ d (.slice (some ⟨b, 0, none⟩) len len)) ds) w)) :
    G w0 A L (fun w => runL ro P all Q ({ dst := d, op := .buildSlice t len parts, type := ty, pos := pos, after := af, guard := none } :: os) (act n ρ ds) w) :=
  o_slice_lit (e := e) cs hr fun b => G.lit_slice (enc := enc) (sz := sz) xs hcs hm (G.freeze_slice (h b))
/-- A floating literal: what is said of it. -/
theorem fl_lit {t e : TypeId} {len : Nat} {parts : Array (Nat × Operand)} (enc : α → List Value) (xs : List α) (cs : Array Value) (hr : ∀ w, (Instr.buildSlice t len (parts.map fun (i, x) => (i, ev n ρ x))).run P w = .ok (.slice (some ⟨w.heap.size, 0, none⟩) len len) (w.alloc (.cells cs e)))
    [en : EncLen enc sz] (hcs : cs.toList = xs.flatMap enc) (hm : xs.length ≤ maxLen) {Lq : List SProp} (X : List SProp) :
    OStep w0 A ro P all n ds ρ (Lq ++ X) { dst := d, op := .buildSlice t len parts, type := ty, pos := pos, after := af, guard := none }
      (fun v M => ∃ M', Ent (sl M) (sl (Lq ++ (X ++ M'))) ∧ ∃ b, v = .slice (some ⟨b, 0, none⟩) len len ∧ M' = [psl enc sz (some ⟨b, 0, none⟩) xs]) := fun Q h =>
  o_litP enc xs cs hr hcs hm fun b => g_end (h _ _ ⟨[psl enc sz (some ⟨b, 0, none⟩) xs], sl_perm (by
    rw [← List.append_assoc]
    exact List.perm_append_comm (l₁ := [psl enc sz (some ⟨b, 0, none⟩) xs]) (l₂ := Lq ++ X)), b, rfl, rfl⟩)
/-- An owned row, given up, with what is known of its room. -/
theorem G.frzc {e : TypeId} [en : EncLen enc sz] {c : Nat} {Φ : World → Prop} (h : xs.length ≤ c → G w0 A (psl enc sz S xs :: L) Φ) : G w0 A ([osl e enc sz S c xs] ++ L) Φ :=
  fun w hw hh => G.freeze_slice (e := e) (c := c) (h (osl_room (e := e) (hh.ent (Ent.swap _ _ _)))) w hw hh
end
/-- From less a state. -/
theorem Yields.pre {P : Program} {l : Nat} {vs : List Value} {M0 M M' Mx : List SProp} (h : Yields P l vs M M' Mx) (e : Ent (sl M0) (sl M)) : Yields P l vs M0 M' Mx := fun w F hh => h w F (hh.ent ((Ent.refl F).star e))
/-- Told otherwise. -/
theorem Iter.map {P : Program} {gf : FuncId} {lb : List Value} {α β : Type} {enc : α → List Value} {enc2 : β → List Value} (g : α → β) (he : ∀ x, enc x = enc2 (g x)) {xs : List α} {J0 : List SProp} (h : Iter P gf lb enc xs J0) : Iter P gf lb enc2 (xs.map g) J0 := fun l J Jx hJ hy => by
  refine (h l (fun pre => J (pre.map g)) (fun pre => Jx (pre.map g)) hJ fun pre x hp => ?_).mono fun v L' hR => ?_
  · have := hy (pre.map g) (g x) (by obtain ⟨t, ht⟩ := hp; exact ⟨t.map g, by rw [← ht]; simp⟩)
    rw [he]
    simpa using this
  · rcases hR with h1 | ⟨pre, ⟨t, ht⟩, h1⟩
    · exact .inl h1
    · exact .inr ⟨pre.map g, ⟨t.map g, by rw [← ht]; simp⟩, h1⟩
end Go.Sl
/- The law on more elements, walked. -/
namespace Go.Proofs.Ythledhcealmkbaa
open Go Go.Sl
attribute [local irreducible] Code.wpIn roundPost bodyPostM runL Ret Meets Begin

def exE (s : SymD) (a : Bool) : ElemD := ⟨⟨1, ⟨#[83]⟩, 9⟩, opSym, s, a, true, 0⟩
theorem exE_chosen (s : SymD) : (exE s false).chosen = true := by simp [ElemD.chosen, exE, exOp]
theorem exE_acc (s : SymD) : (exE s true).chosen = false := by simp [ElemD.chosen, exE]
theorem low_snoc (ns : List Int) (i : Nat) (x : Int) (h : ns[i]? = some x) : lowF (ns.take i) ++ [1 + ((x % 5).toNat : Int)] = lowF (ns.take (i + 1)) := by
  rw [List.take_add_one, h]
  simp [lowF]
theorem O_is (A B : Option Addr) (la ca lb cb : Nat) (xs : List ElemD) (ns : List Int) (hx : xs.length = la) (hn : ns.length = lb) (ha : la ≤ 9223372036854775807) (hb : lb ≤ 9223372036854775807) {r : Bool} (hr : OD xs ns = r) :
    Ctr Try.prog 14 [.slice A la ca, .slice B lb cb] [psl encE 12 A xs, psl encI 1 B ns] (fun v M => v = .bool r ∧ M = []) := hr ▸ O_spec A B la ca lb cb xs ns hx hn ha hb
theorem eq_bool_self (a : Bool) : EqTy Try.prog 4 (.bool a) (.bool a) true := by
  have := eq_bool a a
  rwa [show (a == a) = true by cases a <;> rfl] at this
set_option maxHeartbeats 4000000 in
theorem SuppMore_spec (A : Option Addr) (la ca : Nat) (xs : List ElemD) (hx : xs.length = la) (ha : la ≤ 9223372036854775807) (B : Option Addr) (lb cb : Nat) (ns : List Int) (hn : ns.length = lb) (hb : lb ≤ 9223372036854775807) (s : SymD) :
    Ctr Try.prog 6 [.slice A la ca, .slice B lb cb, s.val] [psl encE 12 A xs, psl encI 1 B ns] (fun v M => v = .bool true ∧ M = []) := by
  refine spec_of Try.func6 rfl Try.ntmps6 rfl fun w0 F => ?_
  -- ponder/ponderlaw16.SuppMore
  repeat (first | refine g_endt ?_ | refine g_end ?_ | refine g_then ?_ | refine g_in_normal ?_ | refine g_then_ret ?_ | refine g_in_ret ?_ | refine g_then_exit ?_ | refine g_in_exit rfl ?_ | refine g_in_exit_ne (by decide) ?_ | refine g_seq ?_ | refine g_region ?_ | refine g_block ?_ | refine g_ret ?_ | refine g_return_n ?_ | refine g_exit ?_ | refine g_skip ?_)
  refine o_boxc s.val.cells rfl rfl fun p => ?_
  refine o_assign ?_
  first | refine g_endt ?_ | refine g_end ?_
  repeat (first | refine g_endt ?_ | refine g_end ?_ | refine g_then ?_ | refine g_in_normal ?_ | refine g_then_ret ?_ | refine g_in_ret ?_ | refine g_then_exit ?_ | refine g_in_exit rfl ?_ | refine g_in_exit_ne (by decide) ?_ | refine g_seq ?_ | refine g_region ?_ | refine g_block ?_ | refine g_ret ?_ | refine g_return_n ?_ | refine g_exit ?_ | refine g_skip ?_)
  refine o_move ?_
  refine o_len rfl rfl ?_
  refine o_gtr rfl rfl ?_
  by_cases h1 : 40 < la
  · rw [show decide ((la : Int) > 40) = true from decide_eq_true (by omega)]
    refine o_move ?_
    refine o_unwanted rfl rfl rfl rfl rfl ?_
    refine o_unwanted rfl rfl rfl rfl rfl ?_
    refine o_unwanted rfl rfl rfl rfl rfl ?_
    refine o_unwanted rfl rfl rfl rfl rfl ?_
    refine o_unwanted rfl rfl rfl rfl rfl ?_
    refine o_pick_t rfl rfl ?_
    refine g_endt ?_
    first | refine g_seq (g_cond_t rfl (rfl) ?_) | refine g_cond_t rfl (rfl) ?_
    repeat (first | refine g_endt ?_ | refine g_end ?_ | refine g_then ?_ | refine g_in_normal ?_ | refine g_then_ret ?_ | refine g_in_ret ?_ | refine g_then_exit ?_ | refine g_in_exit rfl ?_ | refine g_in_exit_ne (by decide) ?_ | refine g_seq ?_ | refine g_region ?_ | refine g_block ?_ | refine g_ret ?_ | refine g_return_n ?_ | refine g_exit ?_ | refine g_skip ?_)
    refine o_call (wakes_spec) rfl rfl ?_
    rintro _ _ ⟨rfl, rfl⟩
    refine o_assign ?_
    first | refine g_endt ?_ | refine g_end ?_
    repeat (first | refine g_endt ?_ | refine g_end ?_ | refine g_then ?_ | refine g_in_normal ?_ | refine g_then_ret ?_ | refine g_in_ret ?_ | refine g_then_exit ?_ | refine g_in_exit rfl ?_ | refine g_in_exit_ne (by decide) ?_ | refine g_seq ?_ | refine g_region ?_ | refine g_block ?_ | refine g_ret ?_ | refine g_return_n ?_ | refine g_exit ?_ | refine g_skip ?_)
    exact ret1 rfl (resT rfl) ⟨rfl, rfl⟩
  · rw [show decide ((la : Int) > 40) = false from decide_eq_false (by omega)]
    refine o_move ?_
    refine o_want rfl rfl rfl rfl rfl (o_move ?_)
    refine o_want rfl rfl rfl rfl rfl (o_len rfl rfl ?_)
    refine o_want rfl rfl rfl rfl rfl (o_move ?_)
    refine o_want rfl rfl rfl rfl rfl (o_len rfl rfl ?_)
    refine o_want rfl rfl rfl rfl rfl (o_neq rfl rfl ?_)
    refine o_pick_f rfl rfl ?_
    refine g_endt ?_
    by_cases h2 : lb = la
    · first | refine g_seq (g_cond_f rfl (by simp; omega) ?_) | refine g_cond_f rfl (by simp; omega) ?_
      repeat (first | refine g_endt ?_ | refine g_end ?_ | refine g_then ?_ | refine g_in_normal ?_ | refine g_then_ret ?_ | refine g_in_ret ?_ | refine g_then_exit ?_ | refine g_in_exit rfl ?_ | refine g_in_exit_ne (by decide) ?_ | refine g_seq ?_ | refine g_region ?_ | refine g_block ?_ | refine g_ret ?_ | refine g_return_n ?_ | refine g_exit ?_ | refine g_skip ?_)
      refine o_assign ?_
      first | refine g_endt ?_ | refine g_end ?_
      repeat (first | refine g_endt ?_ | refine g_end ?_ | refine g_then ?_ | refine g_in_normal ?_ | refine g_then_ret ?_ | refine g_in_ret ?_ | refine g_then_exit ?_ | refine g_in_exit rfl ?_ | refine g_in_exit_ne (by decide) ?_ | refine g_seq ?_ | refine g_region ?_ | refine g_block ?_ | refine g_ret ?_ | refine g_return_n ?_ | refine g_exit ?_ | refine g_skip ?_)
      refine o_assign ?_
      first | refine g_endt ?_ | refine g_end ?_
      refine G.nil_slice 3 encI 1 ?_
      repeat (first | refine g_endt ?_ | refine g_end ?_ | refine g_then ?_ | refine g_in_normal ?_ | refine g_then_ret ?_ | refine g_in_ret ?_ | refine g_then_exit ?_ | refine g_in_exit rfl ?_ | refine g_in_exit_ne (by decide) ?_ | refine g_seq ?_ | refine g_region ?_ | refine g_block ?_ | refine g_ret ?_ | refine g_return_n ?_ | refine g_exit ?_ | refine g_skip ?_)
      change G _ _ [osl 3 encI 1 none 0 (lowF (ns.take 0)), cellsB p s.val.cells 33, psl encE 12 A xs, psl encI 1 B ns] _
      refine g_loop (σ := {t : Nat × Option Addr × Nat // t.1 ≤ la}) (S := fun t => [(0, .slice A la ca), (1, .slice B lb cb), (5, .pointer (some ⟨p, 0, none⟩)), (7, .slice t.1.2.1 t.1.1 t.1.2.2), (8, .int .i64 (t.1.1 : Int))])
        (H := fun t => [osl 3 encI 1 t.1.2.1 t.1.2.2 (lowF (ns.take t.1.1)), cellsB p s.val.cells 33, psl encE 12 A xs, psl encI 1 B ns]) (μ := fun t => la - t.1.1) (s0 := ⟨(0, none, 0), Nat.zero_le _⟩) (Sat.mem ⟨rfl, rfl, rfl, rfl, rfl, trivial⟩) ?_
      rintro ⟨⟨i, S, c⟩, hi⟩ ρ'
      dsimp only at hi ⊢
      have hlen : (lowF (ns.take i)).length = i := by simp [lowF]; omega
      obtain ⟨lo, hlo⟩ : ∃ lo, lo = lowF (ns.take i) := ⟨_, rfl⟩
      rw [← hlo] at hlen
      obtain rfl : i = lo.length := by omega
      rw [← hlo]
      repeat (first | refine g_endt ?_ | refine g_end ?_ | refine g_then ?_ | refine g_in_normal ?_ | refine g_then_ret ?_ | refine g_in_ret ?_ | refine g_then_exit ?_ | refine g_in_exit rfl ?_ | refine g_in_exit_ne (by decide) ?_ | refine g_seq ?_ | refine g_region ?_ | refine g_block ?_ | refine g_ret ?_ | refine g_return_n ?_ | refine g_exit ?_ | refine g_skip ?_)
      refine o_move ?_
      refine o_move ?_
      refine o_len rfl rfl ?_
      refine o_lss rfl rfl ?_
      first | refine g_endt ?_ | refine g_end ?_
      by_cases h : lo.length < la
      · first | refine g_seq (g_cond_t rfl (by simpa using h) ?_) | refine g_cond_t rfl (by simpa using h) ?_
        have hi' : lo.length < ns.length := by omega
        obtain ⟨x, hz⟩ : ∃ x, ns[lo.length]? = some x := ⟨_, List.getElem?_eq_getElem hi'⟩
        have hlo2 := low_snoc ns lo.length x hz
        rw [← hlo] at hlo2
        have hmod : (x % 5).toNat < 5 := by omega
        obtain ⟨y, hy⟩ : ∃ y, y = 1 + ((x % 5).toNat : Int) := ⟨_, rfl⟩
        rw [← hy] at hlo2
        repeat (first | refine g_endt ?_ | refine g_end ?_ | refine g_then ?_ | refine g_in_normal ?_ | refine g_then_ret ?_ | refine g_in_ret ?_ | refine g_then_exit ?_ | refine g_in_exit rfl ?_ | refine g_in_exit_ne (by decide) ?_ | refine g_seq ?_ | refine g_region ?_ | refine g_block ?_ | refine g_ret ?_ | refine g_return_n ?_ | refine g_exit ?_ | refine g_skip ?_)
        refine o_move ?_
        refine o_move ?_
        refine o_move ?_
        refine o_indexR (ys := ns) (i := lo.length) rfl rfl rfl hi' hn rfl ?_
        refine o_loadE0 (enc := encI) (v := .int .i64 x) rfl hz rfl ?_
        refine o_call (Within_spec x 5 (by omega) (by omega)) rfl rfl ?_
        rintro _ _ ⟨rfl, rfl⟩
        refine o_add (c := y) rfl rfl hy.symm (by omega) (by omega) ?_
        refine o_litP (e := 3) encI [y] #[.int .i64 (y)] (fun w => by kernel_rfl) (rfl) (by simp [maxLen]) fun _ => ?_
        refine o_append (xs := lo) (ys := [y]) (by first | rfl | (simp only [List.length_map, List.length_take, List.length_append]; first | rfl | (congr 1; omega))) rfl rfl rfl rfl (fun _ => .inr trivial) (by simp [maxLen]; omega) (by simp; omega) fun S2 e2 => ?_
        refine o_assign ?_
        first | refine g_endt ?_ | refine g_end ?_
        repeat (first | refine g_endt ?_ | refine g_end ?_ | refine g_then ?_ | refine g_in_normal ?_ | refine g_then_ret ?_ | refine g_in_ret ?_ | refine g_then_exit ?_ | refine g_in_exit rfl ?_ | refine g_in_exit_ne (by decide) ?_ | refine g_seq ?_ | refine g_region ?_ | refine g_block ?_ | refine g_ret ?_ | refine g_return_n ?_ | refine g_exit ?_ | refine g_skip ?_)
        refine o_move ?_
        refine o_add rfl rfl rfl (by omega) (by omega) ?_
        refine o_assign ?_
        first | refine g_endt ?_ | refine g_end ?_
        rw [hlo2]
        exact g_meets (⟨(lo.length + 1, S2, e2), by omega⟩) (by first | exact trivial | (dsimp only; omega)) (Sat.mem (by repeat (first | exact trivial | refine And.intro rfl ?_)))
      · first | refine g_seq (g_cond_f rfl (by simpa using h) ?_) | refine g_cond_f rfl (by simpa using h) ?_
        have h5 : lo.length = la := by omega
        subst hx
        have hlow : lo = lowF ns := by rw [hlo, List.take_of_length_le (by omega)]
        clear hlo hi
        subst hlow
        generalize lowF ns = lo at *
        repeat (first | refine g_endt ?_ | refine g_end ?_ | refine g_then ?_ | refine g_in_normal ?_ | refine g_then_ret ?_ | refine g_in_ret ?_ | refine g_then_exit ?_ | refine g_in_exit rfl ?_ | refine g_in_exit_ne (by decide) ?_ | refine g_seq ?_ | refine g_region ?_ | refine g_block ?_ | refine g_ret ?_ | refine g_return_n ?_ | refine g_exit ?_ | refine g_skip ?_)
        refine g_draw [4,5] [0,1,2,3,4,5] [cellsB p s.val.cells 33] mixed rfl ?_
        refine ob_q rfl rfl ⟨_, fun X Q h => o_call (I_spec ⟨#[83]⟩ 9) rfl rfl <| by rintro _ _ ⟨rfl, rfl⟩; exact (g_end (h _ _ ⟨rfl, rfl⟩)), ?_⟩
        refine ob_q rfl rfl ⟨_, fun X Q h => o_call (W_spec opText) rfl rfl <| by rintro _ _ ⟨rfl, rfl⟩; exact (g_end (h _ _ ⟨rfl, rfl⟩)), ?_⟩
        refine ob_q rfl rfl ⟨_, fun X Q h => o_loadN (v := s.val) rfl rfl rfl (g_end (h _ _ ⟨rfl, rfl⟩)), ?_⟩
        refine ob_q rfl rfl ⟨_, fun X Q h => o_build (exE s false).val (fun w => by kernel_rfl) (g_end (h _ _ ⟨rfl, rfl⟩)), ?_⟩
        refine ob_l rfl rfl fun Qz hz => o_alloc fun e => ?_
        refine g_end (hz _ _ ⟨_, ob_fin, ?_⟩)
        clear hz Qz
        refine ob_l rfl rfl fun Qz hz => o_store (v := (exE s false).val) rfl rfl rfl rfl rfl ?_
        refine g_end (hz _ _ ⟨_, ob_fin, ?_⟩)
        clear hz Qz
        refine ob_nil ?_
        refine G.norm e (exE s false).val.cells rfl ?_
        refine G.bring [osl 3 encI 1 S c lo] ?_
        refine G.frz ?_
        repeat (first | refine g_endt ?_ | refine g_end ?_ | refine g_then ?_ | refine g_in_normal ?_ | refine g_then_ret ?_ | refine g_in_ret ?_ | refine g_then_exit ?_ | refine g_in_exit rfl ?_ | refine g_in_exit_ne (by decide) ?_ | refine g_seq ?_ | refine g_region ?_ | refine g_block ?_ | refine g_ret ?_ | refine g_return_n ?_ | refine g_exit ?_ | refine g_skip ?_)
        refine o_move ?_
        refine o_move ?_
        refine o_callp (O_spec A S xs.length ca lo.length c xs lo rfl rfl ha (by omega)) rfl rfl ?_
        rintro _ _ ⟨rfl, rfl⟩
        refine o_assign ?_
        first | refine g_endt ?_ | refine g_end ?_
        repeat (first | refine g_endt ?_ | refine g_end ?_ | refine g_then ?_ | refine g_in_normal ?_ | refine g_then_ret ?_ | refine g_in_ret ?_ | refine g_then_exit ?_ | refine g_in_exit rfl ?_ | refine g_in_exit_ne (by decide) ?_ | refine g_seq ?_ | refine g_region ?_ | refine g_block ?_ | refine g_ret ?_ | refine g_return_n ?_ | refine g_exit ?_ | refine g_skip ?_)
        refine o_move ?_
        refine o_call (OfInt_spec S lo.length c) rfl rfl ?_
        rintro _ _ ⟨b, rfl, rfl⟩
        refine o_callp (Level_spec 27 [.pointer (some ⟨b, 0, none⟩)] lo [pblk b (.cells #[.slice S lo.length c] 22 (0, 0)), psl encI 1 S lo] (fun K => Of1_iter b S lo.length c lo rfl (by omega) _)) rfl rfl ?_
        rintro _ _ ⟨rfl, rfl⟩
        refine o_assign ?_
        first | refine g_endt ?_ | refine g_end ?_
        -- DRAW11
        repeat (first | refine g_endt ?_ | refine g_end ?_ | refine g_then ?_ | refine g_in_normal ?_ | refine g_then_ret ?_ | refine g_in_ret ?_ | refine g_then_exit ?_ | refine g_in_exit rfl ?_ | refine g_in_exit_ne (by decide) ?_ | refine g_seq ?_ | refine g_region ?_ | refine g_block ?_ | refine g_ret ?_ | refine g_return_n ?_ | refine g_exit ?_ | refine g_skip ?_)
        refine g_drawF [1, 4, 6, 9, 10, 14, 17, 19, 21, 22] [.op 0, .op 2, .op 5, .op 7, .dec 3, .dec 8, .op 1, .join 3, .op 4, .op 6, .join 8, .op 9, .op 10, .op 11, .op 12, .op 13, .op 15, .op 18, .op 23, .dec 16, .dec 20, .op 14, .join 16, .op 17, .op 19, .join 20, .op 21, .op 22, .op 24, .op 25] [cellsB e (exE s false).val.cells 35, psl encE 12 A xs, psl encI 1 S lo] mixed (by kernel_rfl) ?_
        refine obf_q rfl rfl ⟨_, fun X Q h => o_move (g_end (h _ _ ⟨rfl, rfl⟩)), ?_⟩
        refine obf_q rfl rfl ⟨_, fun X Q h => o_loadN (v := (exE s false).val) rfl rfl rfl (g_end (h _ _ ⟨rfl, rfl⟩)), ?_⟩
        refine obf_q rfl rfl ⟨_, fun X Q h => o_move (g_end (h _ _ ⟨rfl, rfl⟩)), ?_⟩
        refine obf_q rfl rfl ⟨_, fun X Q h => o_move (g_end (h _ _ ⟨rfl, rfl⟩)), ?_⟩
        refine obf_d (fun v M => ∃ b, v = .slice (some ⟨b, 0, none⟩) 1 1 ∧ M = [psl encE 12 (some ⟨b, 0, none⟩) [exE s false]]) rfl (fun X => fl_lit (e := 35) encE [exE s false] (exE s false).val.cells (fun w => by kernel_rfl) (by simp [encE]) (by simp [maxLen]) X) ?_
        refine obf_d (fun v M => ∃ b, v = .slice (some ⟨b, 0, none⟩) 1 1 ∧ M = [psl encI 1 (some ⟨b, 0, none⟩) [(most lo)]]) rfl (fun X => fl_lit (e := 3) encI [(most lo)] #[.int .i64 (most lo)] (fun w => by kernel_rfl) rfl (by simp [maxLen]) X) ?_
        refine obf_l rfl rfl fun Xz Qz hz => o_callp (CopyElem_spec A xs.length ca xs rfl (by omega)) rfl rfl ?_
        rintro _ _ ⟨X1, k1, rfl, rfl⟩
        refine g_end (hz _ _ ⟨_, ob_fin, ?_⟩)
        clear hz Qz
        refine obf_j rfl (.tail _ (.head _)) ?_
        rintro _ _ ⟨u1, rfl, rfl⟩
        refine obf_l rfl rfl fun Xz Qz hz => o_append (xs := xs) (ys := [exE s false]) rfl rfl rfl rfl rfl (fun _ => .inr trivial) (by simp [maxLen]; omega) (by simp; omega) fun Y1 m1 => ?_
        refine G.bring [osl 35 encE 12 Y1 m1 (xs ++ [exE s false])] ?_
        refine G.frz ?_
        refine g_end (hz _ _ ⟨_, ob_fin, ?_⟩)
        clear hz Qz
        refine obf_l rfl rfl fun Xz Qz hz => o_callp (CopyInt_spec S lo.length c lo rfl (by omega)) rfl rfl ?_
        rintro _ _ ⟨Z1, n1, rfl, rfl⟩
        refine g_end (hz _ _ ⟨_, ob_fin, ?_⟩)
        clear hz Qz
        refine obf_j rfl (.head _) ?_
        rintro _ _ ⟨w1, rfl, rfl⟩
        refine obf_l rfl rfl fun Xz Qz hz => o_append (xs := lo) (ys := [most lo]) rfl rfl rfl rfl rfl (fun _ => .inr trivial) (by simp [maxLen]; omega) (by simp; omega) fun V1 q1 => ?_
        refine G.bring [osl 3 encI 1 V1 q1 (lo ++ [most lo])] ?_
        refine G.frz ?_
        refine g_end (hz _ _ ⟨_, ob_fin, ?_⟩)
        clear hz Qz
        refine obf_l rfl rfl fun Xz Qz hz => o_callp (O_is Y1 V1 (xs.length + 1) m1 (lo.length + 1) q1 (xs ++ [exE s false]) (lo ++ [most lo]) (by simp) (by simp) (by omega) (by omega) (r := true) (by rw [OD_snoc xs lo _ _ h5.symm (most_top lo), exE_chosen, decide_eq_true rfl, Bool.true_and, Bool.or_true])) rfl rfl ?_
        rintro _ _ ⟨rfl, rfl⟩
        refine g_end (hz _ _ ⟨_, ob_fin, ?_⟩)
        clear hz Qz
        refine obf_q rfl rfl ⟨_, fun X Q h => o_not rfl (g_end (h _ _ ⟨rfl, rfl⟩)), ?_⟩
        refine obf_q rfl rfl ⟨_, fun X Q h => o_move (g_end (h _ _ ⟨rfl, rfl⟩)), ?_⟩
        refine obf_q rfl rfl ⟨_, fun X Q h => o_want rfl rfl rfl rfl rfl <| o_move (g_end (h _ _ ⟨rfl, rfl⟩)), ?_⟩
        refine obf_q rfl rfl ⟨_, fun X Q h => o_want rfl rfl rfl rfl rfl <| o_loadN (v := (exE s false).val) rfl rfl rfl (g_end (h _ _ ⟨rfl, rfl⟩)), ?_⟩
        refine obf_q rfl rfl ⟨_, fun X Q h => o_want rfl rfl rfl rfl rfl <| o_move (g_end (h _ _ ⟨rfl, rfl⟩)), ?_⟩
        refine obf_q rfl rfl ⟨_, fun X Q h => o_want rfl rfl rfl rfl rfl <| o_move (g_end (h _ _ ⟨rfl, rfl⟩)), ?_⟩
        refine obf_d (fun v M => ∃ b, v = .slice (some ⟨b, 0, none⟩) 1 1 ∧ M = [psl encE 12 (some ⟨b, 0, none⟩) [exE s false]]) rfl (fun X Q h => o_want rfl rfl rfl rfl rfl (fl_lit (e := 35) encE [exE s false] (exE s false).val.cells (fun w => by kernel_rfl) (by simp [encE]) (by simp [maxLen]) X Q h)) ?_
        refine obf_d (fun v M => ∃ b, v = .slice (some ⟨b, 0, none⟩) 1 1 ∧ M = [psl encI 1 (some ⟨b, 0, none⟩) [0]]) rfl (fun X Q h => o_want rfl rfl rfl rfl rfl (fl_lit (e := 3) encI [0] #[.int .i64 0] (fun w => by kernel_rfl) rfl (by simp [maxLen]) X Q h)) ?_
        refine obf_l rfl rfl fun Xz Qz hz => o_want rfl rfl rfl rfl rfl <| o_callp (CopyElem_spec A xs.length ca xs rfl (by omega)) rfl rfl ?_
        rintro _ _ ⟨X2, k2, rfl, rfl⟩
        refine g_end (hz _ _ ⟨_, ob_fin, ?_⟩)
        clear hz Qz
        refine obf_j rfl (.tail _ (.head _)) ?_
        rintro _ _ ⟨u2, rfl, rfl⟩
        refine obf_l rfl rfl fun Xz Qz hz => o_want rfl rfl rfl rfl rfl <| o_append (xs := xs) (ys := [exE s false]) rfl rfl rfl rfl rfl (fun _ => .inr trivial) (by simp [maxLen]; omega) (by simp; omega) fun Y2 m2 => ?_
        refine G.bring [osl 35 encE 12 Y2 m2 (xs ++ [exE s false])] ?_
        refine G.frz ?_
        refine g_end (hz _ _ ⟨_, ob_fin, ?_⟩)
        clear hz Qz
        refine obf_l rfl rfl fun Xz Qz hz => o_want rfl rfl rfl rfl rfl <| o_callp (CopyInt_spec S lo.length c lo rfl (by omega)) rfl rfl ?_
        rintro _ _ ⟨Z2, n2, rfl, rfl⟩
        refine g_end (hz _ _ ⟨_, ob_fin, ?_⟩)
        clear hz Qz
        refine obf_j rfl (.head _) ?_
        rintro _ _ ⟨w2, rfl, rfl⟩
        refine obf_l rfl rfl fun Xz Qz hz => o_want rfl rfl rfl rfl rfl <| o_append (xs := lo) (ys := [0]) rfl rfl rfl rfl rfl (fun _ => .inr trivial) (by simp [maxLen]; omega) (by simp; omega) fun V2 q2 => ?_
        refine G.bring [osl 3 encI 1 V2 q2 (lo ++ [0])] ?_
        refine G.frz ?_
        refine g_end (hz _ _ ⟨_, ob_fin, ?_⟩)
        clear hz Qz
        refine obf_l rfl rfl fun Xz Qz hz => o_want rfl rfl rfl rfl rfl <| o_callp (O_is Y2 V2 (xs.length + 1) m2 (lo.length + 1) q2 (xs ++ [exE s false]) (lo ++ [0]) (by simp) (by simp) (by omega) (by omega) (r := OD xs lo) (by rw [OD_snoc xs lo _ _ h5.symm (most_zero lo), decide_eq_false (by have := one_le_most lo; omega), Bool.and_false, Bool.or_false])) rfl rfl ?_
        rintro _ _ ⟨rfl, rfl⟩
        refine g_end (hz _ _ ⟨_, ob_fin, ?_⟩)
        clear hz Qz
        refine obf_q rfl rfl ⟨_, fun X Q h => o_want rfl rfl rfl rfl rfl <| o_neqty rfl rfl (eq_bool _ _) (g_end (h _ _ ⟨rfl, rfl⟩)), ?_⟩
        refine obf_q rfl rfl ⟨_, fun X Q h => o_pick_f rfl rfl (g_end (h _ _ ⟨rfl, rfl⟩)), ?_⟩
        refine obf_nil ?_
        first | refine g_seq (g_cond_f rfl (by simp) ?_) | refine g_cond_f rfl (by simp) ?_
        repeat (first | refine g_endt ?_ | refine g_end ?_ | refine g_then ?_ | refine g_in_normal ?_ | refine g_then_ret ?_ | refine g_in_ret ?_ | refine g_then_exit ?_ | refine g_in_exit rfl ?_ | refine g_in_exit_ne (by decide) ?_ | refine g_seq ?_ | refine g_region ?_ | refine g_block ?_ | refine g_ret ?_ | refine g_return_n ?_ | refine g_exit ?_ | refine g_skip ?_)
        first | refine o_field rfl ?_ | refine o_fieldR rfl (by omega) ?_
        refine o_store (v := .bool true) rfl rfl rfl rfl rfl ?_
        first | refine g_endt ?_ | refine g_end ?_
        refine G.norm e (exE s true).val.cells rfl ?_
        repeat (first | refine g_endt ?_ | refine g_end ?_ | refine g_then ?_ | refine g_in_normal ?_ | refine g_then_ret ?_ | refine g_in_ret ?_ | refine g_then_exit ?_ | refine g_in_exit rfl ?_ | refine g_in_exit_ne (by decide) ?_ | refine g_seq ?_ | refine g_region ?_ | refine g_block ?_ | refine g_ret ?_ | refine g_return_n ?_ | refine g_exit ?_ | refine g_skip ?_)
        refine g_drawF [1, 4, 6, 9, 10, 14] [.op 0, .op 2, .op 5, .op 7, .op 11, .dec 3, .dec 8, .op 1, .join 3, .op 4, .op 6, .join 8, .op 9, .op 10, .op 12, .op 13, .op 14, .op 15, .op 16] [cellsB e (exE s true).val.cells 35, psl encE 12 A xs, psl encI 1 S lo] mixed (by kernel_rfl) ?_
        refine obf_q rfl rfl ⟨_, fun X Q h => o_move (g_end (h _ _ ⟨rfl, rfl⟩)), ?_⟩
        refine obf_q rfl rfl ⟨_, fun X Q h => o_loadN (v := (exE s true).val) rfl rfl rfl (g_end (h _ _ ⟨rfl, rfl⟩)), ?_⟩
        refine obf_q rfl rfl ⟨_, fun X Q h => o_move (g_end (h _ _ ⟨rfl, rfl⟩)), ?_⟩
        refine obf_q rfl rfl ⟨_, fun X Q h => o_move (g_end (h _ _ ⟨rfl, rfl⟩)), ?_⟩
        refine obf_q rfl rfl ⟨_, fun X Q h => o_move (g_end (h _ _ ⟨rfl, rfl⟩)), ?_⟩
        refine obf_d (fun v M => ∃ b, v = .slice (some ⟨b, 0, none⟩) 1 1 ∧ M = [psl encE 12 (some ⟨b, 0, none⟩) [exE s true]]) rfl (fun X => fl_lit (e := 35) encE [exE s true] (exE s true).val.cells (fun w => by kernel_rfl) (by simp [encE]) (by simp [maxLen]) X) ?_
        refine obf_d (fun v M => ∃ b, v = .slice (some ⟨b, 0, none⟩) 1 1 ∧ M = [psl encI 1 (some ⟨b, 0, none⟩) [(most lo)]]) rfl (fun X => fl_lit (e := 3) encI [(most lo)] #[.int .i64 (most lo)] (fun w => by kernel_rfl) rfl (by simp [maxLen]) X) ?_
        refine obf_l rfl rfl fun Xz Qz hz => o_callp (CopyElem_spec A xs.length ca xs rfl (by omega)) rfl rfl ?_
        rintro _ _ ⟨X3, k3, rfl, rfl⟩
        refine g_end (hz _ _ ⟨_, ob_fin, ?_⟩)
        clear hz Qz
        refine obf_j rfl (.tail _ (.head _)) ?_
        rintro _ _ ⟨u3, rfl, rfl⟩
        refine obf_l rfl rfl fun Xz Qz hz => o_append (xs := xs) (ys := [exE s true]) rfl rfl rfl rfl rfl (fun _ => .inr trivial) (by simp [maxLen]; omega) (by simp; omega) fun Y3 m3 => ?_
        refine G.bring [osl 35 encE 12 Y3 m3 (xs ++ [exE s true])] ?_
        refine G.frz ?_
        refine g_end (hz _ _ ⟨_, ob_fin, ?_⟩)
        clear hz Qz
        refine obf_l rfl rfl fun Xz Qz hz => o_callp (CopyInt_spec S lo.length c lo rfl (by omega)) rfl rfl ?_
        rintro _ _ ⟨Z3, n3, rfl, rfl⟩
        refine g_end (hz _ _ ⟨_, ob_fin, ?_⟩)
        clear hz Qz
        refine obf_j rfl (.head _) ?_
        rintro _ _ ⟨w3, rfl, rfl⟩
        refine obf_l rfl rfl fun Xz Qz hz => o_append (xs := lo) (ys := [most lo]) rfl rfl rfl rfl rfl (fun _ => .inr trivial) (by simp [maxLen]; omega) (by simp; omega) fun V3 q3 => ?_
        refine G.bring [osl 3 encI 1 V3 q3 (lo ++ [most lo])] ?_
        refine G.frz ?_
        refine g_end (hz _ _ ⟨_, ob_fin, ?_⟩)
        clear hz Qz
        refine obf_l rfl rfl fun Xz Qz hz => o_callp (O_is Y3 V3 (xs.length + 1) m3 (lo.length + 1) q3 (xs ++ [exE s true]) (lo ++ [most lo]) (by simp) (by simp) (by omega) (by omega) (r := OD xs lo) (by rw [OD_snoc xs lo _ _ h5.symm (most_top lo), exE_acc, Bool.false_and, Bool.or_false])) rfl rfl ?_
        rintro _ _ ⟨rfl, rfl⟩
        refine g_end (hz _ _ ⟨_, ob_fin, ?_⟩)
        clear hz Qz
        refine obf_q rfl rfl ⟨_, fun X Q h => o_eqty rfl rfl (eq_bool_self _) (g_end (h _ _ ⟨rfl, rfl⟩)), ?_⟩
        refine obf_q rfl rfl ⟨_, fun X Q h => o_move (g_end (h _ _ ⟨rfl, rfl⟩)), ?_⟩
        refine obf_l rfl rfl fun Xz Qz hz => o_want rfl rfl rfl rfl rfl <| o_call wakes_spec rfl rfl ?_
        rintro _ _ ⟨rfl, rfl⟩
        refine g_end (hz _ _ ⟨_, ob_fin, ?_⟩)
        clear hz Qz
        refine obf_q rfl rfl ⟨_, fun X Q h => o_pick_t rfl rfl (g_end (h _ _ ⟨rfl, rfl⟩)), ?_⟩
        refine obf_q rfl rfl ⟨_, fun X Q h => o_assign (g_end (h _ _ ⟨rfl, rfl⟩)), ?_⟩
        refine obf_nil ?_
        repeat (first | refine g_endt ?_ | refine g_end ?_ | refine g_then ?_ | refine g_in_normal ?_ | refine g_then_ret ?_ | refine g_in_ret ?_ | refine g_then_exit ?_ | refine g_in_exit rfl ?_ | refine g_in_exit_ne (by decide) ?_ | refine g_seq ?_ | refine g_region ?_ | refine g_block ?_ | refine g_ret ?_ | refine g_return_n ?_ | refine g_exit ?_ | refine g_skip ?_)
        exact ret1 rfl (resT rfl) ⟨rfl, rfl⟩
    · first | refine g_seq (g_cond_t rfl (by simp; omega) ?_) | refine g_cond_t rfl (by simp; omega) ?_
      repeat (first | refine g_endt ?_ | refine g_end ?_ | refine g_then ?_ | refine g_in_normal ?_ | refine g_then_ret ?_ | refine g_in_ret ?_ | refine g_then_exit ?_ | refine g_in_exit rfl ?_ | refine g_in_exit_ne (by decide) ?_ | refine g_seq ?_ | refine g_region ?_ | refine g_block ?_ | refine g_ret ?_ | refine g_return_n ?_ | refine g_exit ?_ | refine g_skip ?_)
      refine o_call (wakes_spec) rfl rfl ?_
      rintro _ _ ⟨rfl, rfl⟩
      refine o_assign ?_
      first | refine g_endt ?_ | refine g_end ?_
      repeat (first | refine g_endt ?_ | refine g_end ?_ | refine g_then ?_ | refine g_in_normal ?_ | refine g_then_ret ?_ | refine g_in_ret ?_ | refine g_then_exit ?_ | refine g_in_exit rfl ?_ | refine g_in_exit_ne (by decide) ?_ | refine g_seq ?_ | refine g_region ?_ | refine g_block ?_ | refine g_ret ?_ | refine g_return_n ?_ | refine g_exit ?_ | refine g_skip ?_)
      exact ret1 rfl (resT rfl) ⟨rfl, rfl⟩
end Go.Proofs.Ythledhcealmkbaa
namespace Go.Proofs.Ythledhcealmkbaa
open Go Go.Sl Go.ChangeShapes Go.WideShapes Go.ChangeAt Go.RowKit

theorem own5 : ownKnob Try.prog.godebug = none := by kernel_rfl
theorem laidOut5 : laidOutB Try.prog = true := by kernel_rfl
theorem params5 : Try.f6.params = #[30, 22, 33] := by kernel_rfl
set_option maxRecDepth 100000 in
theorem SuppMore_lifted (os : Os) (started : os.Started) (H : Type) (enc : TypeId × Value → H) :
    ReturnsInHanded {} Try.checked os 6 .any (Rows.suppMoreSpec.pre6 enc Try.prog Try.f6 Rows.suppMoreRow.domain false) (Rows.suppMoreSpec.post enc Try.prog Try.f6 false true false false) := by
  refine returnsInHanded_of_change (C := Try.checked) own5 started (by kernel_rfl) Try.func6
    (ChangeSpec.witness6 (enc := enc) (C := Try.checked) false ⟨#[], #[.slice none 0 0, .slice none 0 0, SymD.val ⟨0, ByteArray.empty, 0⟩], []⟩ 8 (by kernel_rfl) (by kernel_rfl) (by kernel_rfl) (by kernel_rfl)) ?_
  intro W base args ds gs before hval0 hW hcnd _
  have hval : ∀ (j : Nat) t v, Try.f6.params[j]? = some t → args[j]? = some v → Value.okWide Try.prog W .any base t v := hval0
  have hW' := hW
  obtain ⟨p, q, hA0, hV, rfl, hfz, hnd⟩ := hW
  have hA : DataW.TrodAll enc Try.prog W 0 (fun _ => true) true Try.f6.params.toList args.toList ds p := hA0
  rw [params5] at hA hval
  obtain ⟨v0, v1, v2, d0, d1, d2, p0, p1, p2, rfl, rfl, rfl, h0, h1, h2⟩ := trodAll_three hA
  obtain ⟨A0, n0, c0, y0, rfl, l0, m0, r0⟩ := open_psl (en := encE) (by kernel_rfl) (by kernel_rfl) (by decide) (fun _ _ _ h => cells_encE h) (hval 0 _ v0 rfl rfl) h0
  obtain ⟨A1, n1, c1, y1, rfl, l1, m1, r1⟩ := open_psl (en := encI) (by kernel_rfl) (by kernel_rfl) (by decide) (fun _ _ _ h => cells_encI h) (hval 1 _ v1 rfl rfl) h1
  obtain ⟨x2, rfl⟩ := open_sym (hval 2 _ v2 rfl rfl) h2
  refine (law_calls (SuppMore_spec A0 n0 c0 y0 l0 (Nat.le_trans m0 (by decide)) A1 n1 c1 y1 l1 (Nat.le_trans m1 (by decide)) x2) (holds_psl (holds_psl (holds_nil W) r1) r0)).mono ?_
  rintro _ W' ⟨v, L', rfl, ⟨rfl, rfl⟩, hb⟩
  exact ⟨_, rfl, post_law (tb := 4) hW' laidOut5 rfl rfl (by kernel_rfl) (by kernel_rfl) (by rw [params5]; intro t ht; simp at ht; rcases ht with rfl | rfl | rfl <;> exact ⟨by kernel_rfl, of_decide_eq_true (by kernel_rfl)⟩) hb⟩
set_option maxHeartbeats 4000000 in
theorem closed5 : joinedFacts Try.prog 6 Try.f6 Rows.suppMoreSpec Rows.suppMoreRow = true := by
  unfold joinedFacts
  simp only [Bool.and_eq_true]
  repeat' apply And.intro
  all_goals (as_aux_lemma => kernel_rfl)
theorem named5 : Try.pinned.checked.prog.funcNamed Rows.suppMoreRow.func = some 6 := by kernel_rfl
theorem inst5 : Try.f6.isInstance Try.prog Rows.suppMoreRow.origin Rows.suppMoreRow.targs := of_decide_eq_true (by kernel_rfl)
theorem SuppMore_holds : Rows.SuppMoreSaid :=
  OpenClaim.holds_of_wide 6 Try.f6 rfl rfl rfl rfl rfl rfl rfl ⟨rfl, rfl, rfl, rfl, rfl⟩ rfl rfl rfl rfl rfl named5 Try.func6 closed5
    inst5 (by unfold Func.isWrapper; first | (rw [if_pos (by decide +kernel)]; kernel_rfl) | (rw [if_neg (by decide +kernel)]; exact ⟨rfl, rfl⟩))
    (fun os started H enc _ => SuppMore_lifted os started H enc)
end Go.Proofs.Ythledhcealmkbaa
