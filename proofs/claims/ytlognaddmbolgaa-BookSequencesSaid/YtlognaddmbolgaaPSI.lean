/- Pages of an ordered map, for one type of keys and one of values. -/
import Derived.Test.YtlognaddmbolgaaD3
namespace Go.Proofs.Ytlognaddmbolgaa
open Go Go.Sl
attribute [local irreducible] Code.wpIn roundPost bodyPostM runL Ret Meets Begin

structure PgSI where
  k : SymD
  v : Int
def PgSI.vval (v : Int) : Value := .int .i64 v
def PgSI.val (p : PgSI) : Value := .agg #[.int .i64 p.k.kind, .string p.k.text, .int .i64 p.k.n, PgSI.vval p.v]
def PgSI.enc (p : PgSI) : List Value := p.val.cells.toList
/-- As an argument of a call: one value. -/
def PgSI.enc' (p : PgSI) : List Value := [p.val]
instance : EncLen PgSI.enc 4 := ⟨fun _ => rfl, fun e u h => by simp [PgSI.enc, PgSI.val, Value.cells] at h; rcases h with h | h | h | h <;> subst h <;> rfl⟩
def PgSI.cmp (a b : PgSI) : Int := a.k.cmp b.k
theorem PgSI.lin : LinCmp PgSI.cmp := linSym.pull PgSI.k
def PgSI.enc2 (p : PgSI) : List Value := [p.k.val, PgSI.vval p.v]
def PgSI.zero : PgSI := ⟨⟨0, ByteArray.empty, 0⟩, 0⟩
theorem PgSI.cmp_spec (a b : PgSI) : Ctr Try.prog 130 [a.val, b.val] [] (fun v M => v = .int .i64 (a.cmp b) ∧ M = []) := by
  refine spec_of Try.func130 rfl Try.ntmps130 rfl fun w0 F => ?_
  repeat (first | refine g_endt ?_ | refine g_end ?_ | refine g_then ?_ | refine g_in_normal ?_ | refine g_then_ret ?_ | refine g_in_ret ?_ | refine g_then_exit ?_ | refine g_in_exit rfl ?_ | refine g_in_exit_ne (by decide) ?_ | refine g_seq ?_ | refine g_region ?_ | refine g_block ?_ | refine g_ret ?_ | refine g_return_n ?_ | refine g_exit ?_ | refine g_skip ?_)
  refine o_boxc a.val.cells rfl rfl fun p => ?_
  refine o_boxc b.val.cells rfl rfl fun q => ?_
  refine o_assign ?_
  first | refine g_endt ?_ | refine g_end ?_
  repeat (first | refine g_endt ?_ | refine g_end ?_ | refine g_then ?_ | refine g_in_normal ?_ | refine g_then_ret ?_ | refine g_in_ret ?_ | refine g_then_exit ?_ | refine g_in_exit rfl ?_ | refine g_in_exit_ne (by decide) ?_ | refine g_seq ?_ | refine g_region ?_ | refine g_block ?_ | refine g_ret ?_ | refine g_return_n ?_ | refine g_exit ?_ | refine g_skip ?_)
  refine o_field rfl ?_
  refine o_loadN (v := a.k.val) rfl rfl rfl ?_
  refine o_iface rfl (fun w => by kernel_rfl) ?_
  refine o_field rfl ?_
  refine o_loadN (v := b.k.val) rfl rfl rfl ?_
  refine o_invoke (CompareSym_spec a.k b.k) rfl rfl (fun w => by kernel_rfl) ?_
  rintro _ _ ⟨rfl, rfl⟩
  refine o_assign ?_
  first | refine g_endt ?_ | refine g_end ?_
  repeat (first | refine g_endt ?_ | refine g_end ?_ | refine g_then ?_ | refine g_in_normal ?_ | refine g_then_ret ?_ | refine g_in_ret ?_ | refine g_then_exit ?_ | refine g_in_exit rfl ?_ | refine g_in_exit_ne (by decide) ?_ | refine g_seq ?_ | refine g_region ?_ | refine g_block ?_ | refine g_ret ?_ | refine g_return_n ?_ | refine g_exit ?_ | refine g_skip ?_)
  exact ret1 rfl (resT (v := .int .i64 (a.cmp b)) rfl) ⟨rfl, rfl⟩
end Go.Proofs.Ytlognaddmbolgaa
