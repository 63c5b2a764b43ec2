/- Pages of an ordered map, for one type of keys and one of values. -/
import Derived.Test.YtlognaddmbolgaaD3
namespace Go.Proofs.Ytlognaddmbolgaa
open Go Go.Sl
attribute [local irreducible] Code.wpIn roundPost bodyPostM runL Ret Meets Begin

structure PgSL where
  k : SymD
  v : SlV
def PgSL.vval (v : SlV) : Value := .slice v.a v.len v.cap
def PgSL.val (p : PgSL) : Value := .agg #[.int .i64 p.k.kind, .string p.k.text, .int .i64 p.k.n, PgSL.vval p.v]
def PgSL.enc (p : PgSL) : List Value := p.val.cells.toList
/-- As an argument of a call: one value. -/
def PgSL.enc' (p : PgSL) : List Value := [p.val]
instance : EncLen PgSL.enc 4 := ⟨fun _ => rfl, fun e u h => by simp [PgSL.enc, PgSL.val, Value.cells] at h; rcases h with h | h | h | h <;> subst h <;> rfl⟩
def PgSL.cmp (a b : PgSL) : Int := a.k.cmp b.k
theorem PgSL.lin : LinCmp PgSL.cmp := linSym.pull PgSL.k
def PgSL.enc2 (p : PgSL) : List Value := [p.k.val, PgSL.vval p.v]
def PgSL.zero : PgSL := ⟨⟨0, ByteArray.empty, 0⟩, ⟨none, 0, 0⟩⟩
theorem PgSL.cmp_spec (a b : PgSL) : Ctr Try.prog 129 [a.val, b.val] [] (fun v M => v = .int .i64 (a.cmp b) ∧ M = []) := by
  refine spec_of Try.func129 rfl Try.ntmps129 rfl fun w0 F => ?_
  repeat (first | refine g_endt ?_ | refine g_end ?_ | refine g_then ?_ | refine g_in_normal ?_ | refine g_then_ret ?_ | refine g_in_ret ?_ | refine g_then_exit ?_ | refine g_in_exit rfl ?_ | refine g_in_exit_ne (by decide) ?_ | refine g_seq ?_ | refine g_region ?_ | refine g_block ?_ | refine g_ret ?_ | refine g_return_n ?_ | refine g_exit ?_ | refine g_skip ?_)
  refine o_boxc a.val.cells rfl rfl fun p => ?_
  refine o_boxc b.val.cells rfl rfl fun q => ?_
  refine o_assign ?_
  first | refine g_endt ?_ | refine g_end ?_
  repeat (first | refine g_endt ?_ | refine g_end ?_ | refine g_then ?_ | refine g_in_normal ?_ | refine g_then_ret ?_ | refine g_in_ret ?_ | refine g_then_exit ?_ | refine g_in_exit rfl ?_ | refine g_in_exit_ne (by decide) ?_ | refine g_seq ?_ | refine g_region ?_ | refine g_block ?_ | refine g_ret ?_ | refine g_return_n ?_ | refine g_exit ?_ | refine g_skip ?_)
  refine o_field rfl ?_
  refine o_loadN (v := a.k.val) rfl rfl rfl ?_
  refine o_iface rfl (fun w => by kernel_rfl) ?_
  refine o_field rfl ?_
  refine o_loadN (v := b.k.val) rfl rfl rfl ?_
  refine o_invoke (CompareSym_spec a.k b.k) rfl rfl (fun w => by kernel_rfl) ?_
  rintro _ _ ⟨rfl, rfl⟩
  refine o_assign ?_
  first | refine g_endt ?_ | refine g_end ?_
  repeat (first | refine g_endt ?_ | refine g_end ?_ | refine g_then ?_ | refine g_in_normal ?_ | refine g_then_ret ?_ | refine g_in_ret ?_ | refine g_then_exit ?_ | refine g_in_exit rfl ?_ | refine g_in_exit_ne (by decide) ?_ | refine g_seq ?_ | refine g_region ?_ | refine g_block ?_ | refine g_ret ?_ | refine g_return_n ?_ | refine g_exit ?_ | refine g_skip ?_)
  exact ret1 rfl (resT (v := .int .i64 (a.cmp b)) rfl) ⟨rfl, rfl⟩
end Go.Proofs.Ytlognaddmbolgaa
