/- The facts on types and functions of this translation that the walk looks up. Written by gen_ty.py. -/
import Derived.Test.YtlognaddmbolgaaProg
import Derived.Test.YtlognaddmbolgaaSl6
import Derived.KernelRfl
namespace Go.Proofs.Ytlognaddmbolgaa
open Go Go.Sl

theorem mixed : Try.prog.follows .mixedOrders = true := by kernel_rfl
instance : TyS Try.prog 1 := ⟨fun w => by kernel_rfl, fun w => by kernel_rfl⟩
instance : TyZ Try.prog 1 (.nilFunc) := ⟨fun w => by kernel_rfl⟩
instance : TyS Try.prog 2 := ⟨fun w => by kernel_rfl, fun w => by kernel_rfl⟩
instance : TyZ Try.prog 2 (.int .i64 0) := ⟨fun w => by kernel_rfl⟩
instance : TyS Try.prog 3 := ⟨fun w => by kernel_rfl, fun w => by kernel_rfl⟩
instance : TyZ Try.prog 3 (.int .i64 0) := ⟨fun w => by kernel_rfl⟩
instance : TyS Try.prog 4 := ⟨fun w => by kernel_rfl, fun w => by kernel_rfl⟩
instance : TyZ Try.prog 4 (.bool false) := ⟨fun w => by kernel_rfl⟩
instance : TyS Try.prog 5 := ⟨fun w => by kernel_rfl, fun w => by kernel_rfl⟩
instance : TyZ Try.prog 5 (.int .u8 0) := ⟨fun w => by kernel_rfl⟩
instance : TyS Try.prog 6 := ⟨fun w => by kernel_rfl, fun w => by kernel_rfl⟩
instance : TyZ Try.prog 6 (.int .u8 0) := ⟨fun w => by kernel_rfl⟩
instance : TyS Try.prog 9 := ⟨fun w => by kernel_rfl, fun w => by kernel_rfl⟩
instance : TyZ Try.prog 9 (.string ByteArray.empty) := ⟨fun w => by kernel_rfl⟩
instance : TyS Try.prog 10 := ⟨fun w => by kernel_rfl, fun w => by kernel_rfl⟩
instance : TyZ Try.prog 10 (.string ByteArray.empty) := ⟨fun w => by kernel_rfl⟩
instance : TyS Try.prog 11 := ⟨fun w => by kernel_rfl, fun w => by kernel_rfl⟩
instance : TyZ Try.prog 11 (.string ByteArray.empty) := ⟨fun w => by kernel_rfl⟩
instance : TyS Try.prog 12 := ⟨fun w => by kernel_rfl, fun w => by kernel_rfl⟩
instance : TyZ Try.prog 12 (.int .u64 0) := ⟨fun w => by kernel_rfl⟩
instance : TyS Try.prog 15 := ⟨fun w => by kernel_rfl, fun w => by kernel_rfl⟩
instance : TyZ Try.prog 15 (.pointer none) := ⟨fun w => by kernel_rfl⟩
instance : PtrTy Try.prog 15 := ⟨⟨157, by kernel_rfl⟩⟩
instance : TyS Try.prog 16 := ⟨fun w => by kernel_rfl, fun w => by kernel_rfl⟩
instance : TyZ Try.prog 16 (.pointer none) := ⟨fun w => by kernel_rfl⟩
instance : PtrTy Try.prog 16 := ⟨⟨160, by kernel_rfl⟩⟩
instance : TyS Try.prog 17 := ⟨fun w => by kernel_rfl, fun w => by kernel_rfl⟩
instance : TyZ Try.prog 17 (.pointer none) := ⟨fun w => by kernel_rfl⟩
instance : PtrTy Try.prog 17 := ⟨⟨169, by kernel_rfl⟩⟩
instance : TyS Try.prog 21 := ⟨fun w => by kernel_rfl, fun w => by kernel_rfl⟩
instance : TyZ Try.prog 21 (.int .i32 0) := ⟨fun w => by kernel_rfl⟩
instance : TyS Try.prog 22 := ⟨fun w => by kernel_rfl, fun w => by kernel_rfl⟩
instance : TyZ Try.prog 22 (.slice none 0 0) := ⟨fun w => by kernel_rfl⟩
instance : SlTy Try.prog 22 28 1 := ⟨by kernel_rfl, fun w => by kernel_rfl⟩
instance : ApTy Try.prog 22 28 1 24 := .of (by kernel_rfl) (by kernel_rfl) (by decide)
instance : TyS Try.prog 23 := ⟨fun w => by kernel_rfl, fun w => by kernel_rfl⟩
instance : TyZ Try.prog 23 (.nilFunc) := ⟨fun w => by kernel_rfl⟩
instance : TyS Try.prog 24 := ⟨fun w => by kernel_rfl, fun w => by kernel_rfl⟩
instance : TyZ Try.prog 24 (.pointer none) := ⟨fun w => by kernel_rfl⟩
instance : PtrTy Try.prog 24 := ⟨⟨95, by kernel_rfl⟩⟩
instance : TyS Try.prog 25 := ⟨fun w => by kernel_rfl, fun w => by kernel_rfl⟩
instance : TyZ Try.prog 25 (.nilFunc) := ⟨fun w => by kernel_rfl⟩
instance : TyA Try.prog 26 3 := ⟨fun w => by kernel_rfl, fun w => by kernel_rfl⟩
instance : FieldOff Try.prog 26 0 0 := ⟨fun b k w => by kernel_rfl⟩
instance : FieldOff Try.prog 26 1 1 := ⟨fun b k w => by kernel_rfl⟩
instance : FieldOff Try.prog 26 2 2 := ⟨fun b k w => by kernel_rfl⟩
instance : TyZ Try.prog 26 ((.agg #[.int .i64 0, .string ByteArray.empty, .int .i64 0])) := ⟨fun w => by kernel_rfl⟩
instance : TyA Try.prog 27 3 := ⟨fun w => by kernel_rfl, fun w => by kernel_rfl⟩
instance : FieldOff Try.prog 27 0 0 := ⟨fun b k w => by kernel_rfl⟩
instance : FieldOff Try.prog 27 1 1 := ⟨fun b k w => by kernel_rfl⟩
instance : FieldOff Try.prog 27 2 2 := ⟨fun b k w => by kernel_rfl⟩
instance : TyZ Try.prog 27 ((.agg #[.int .i64 0, .string ByteArray.empty, .int .i64 0])) := ⟨fun w => by kernel_rfl⟩
instance : TyS Try.prog 28 := ⟨fun w => by kernel_rfl, fun w => by kernel_rfl⟩
instance : TyZ Try.prog 28 (.slice none 0 0) := ⟨fun w => by kernel_rfl⟩
instance : SlTy Try.prog 28 3 1 := ⟨by kernel_rfl, fun w => by kernel_rfl⟩
instance : ApTy Try.prog 28 3 1 8 := .of (by kernel_rfl) (by kernel_rfl) (by decide)
instance : TyS Try.prog 29 := ⟨fun w => by kernel_rfl, fun w => by kernel_rfl⟩
instance : TyZ Try.prog 29 (.nilFunc) := ⟨fun w => by kernel_rfl⟩
instance : TyS Try.prog 30 := ⟨fun w => by kernel_rfl, fun w => by kernel_rfl⟩
instance : TyZ Try.prog 30 (.nilFunc) := ⟨fun w => by kernel_rfl⟩
instance : TyS Try.prog 31 := ⟨fun w => by kernel_rfl, fun w => by kernel_rfl⟩
instance : TyZ Try.prog 31 (.nilFunc) := ⟨fun w => by kernel_rfl⟩
instance : TyS Try.prog 32 := ⟨fun w => by kernel_rfl, fun w => by kernel_rfl⟩
instance : TyZ Try.prog 32 (.nilFunc) := ⟨fun w => by kernel_rfl⟩
instance : TyS Try.prog 33 := ⟨fun w => by kernel_rfl, fun w => by kernel_rfl⟩
instance : TyZ Try.prog 33 (.nilFunc) := ⟨fun w => by kernel_rfl⟩
instance : TyS Try.prog 34 := ⟨fun w => by kernel_rfl, fun w => by kernel_rfl⟩
instance : TyZ Try.prog 34 (.nilFunc) := ⟨fun w => by kernel_rfl⟩
instance : TyS Try.prog 35 := ⟨fun w => by kernel_rfl, fun w => by kernel_rfl⟩
instance : TyZ Try.prog 35 (.slice none 0 0) := ⟨fun w => by kernel_rfl⟩
instance : SlTy Try.prog 35 27 3 := ⟨by kernel_rfl, fun w => by kernel_rfl⟩
instance : ApTy Try.prog 35 27 3 32 := .of (by kernel_rfl) (by kernel_rfl) (by decide)
instance : TyS Try.prog 36 := ⟨fun w => by kernel_rfl, fun w => by kernel_rfl⟩
instance : TyZ Try.prog 36 (.pointer none) := ⟨fun w => by kernel_rfl⟩
instance : PtrTy Try.prog 36 := ⟨⟨107, by kernel_rfl⟩⟩
instance : TyS Try.prog 37 := ⟨fun w => by kernel_rfl, fun w => by kernel_rfl⟩
instance : TyZ Try.prog 37 (.pointer none) := ⟨fun w => by kernel_rfl⟩
instance : PtrTy Try.prog 37 := ⟨⟨48, by kernel_rfl⟩⟩
instance : TyS Try.prog 39 := ⟨fun w => by kernel_rfl, fun w => by kernel_rfl⟩
instance : TyZ Try.prog 39 (.nilFunc) := ⟨fun w => by kernel_rfl⟩
instance : TyS Try.prog 40 := ⟨fun w => by kernel_rfl, fun w => by kernel_rfl⟩
instance : TyZ Try.prog 40 (.nilFunc) := ⟨fun w => by kernel_rfl⟩
instance : TyS Try.prog 41 := ⟨fun w => by kernel_rfl, fun w => by kernel_rfl⟩
instance : TyZ Try.prog 41 (.nilFunc) := ⟨fun w => by kernel_rfl⟩
instance : TyS Try.prog 42 := ⟨fun w => by kernel_rfl, fun w => by kernel_rfl⟩
instance : TyZ Try.prog 42 (.nilFunc) := ⟨fun w => by kernel_rfl⟩
instance : TyS Try.prog 43 := ⟨fun w => by kernel_rfl, fun w => by kernel_rfl⟩
instance : TyZ Try.prog 43 (.nilFunc) := ⟨fun w => by kernel_rfl⟩
instance : TyS Try.prog 45 := ⟨fun w => by kernel_rfl, fun w => by kernel_rfl⟩
instance : TyZ Try.prog 45 (.nilFunc) := ⟨fun w => by kernel_rfl⟩
instance : TyS Try.prog 46 := ⟨fun w => by kernel_rfl, fun w => by kernel_rfl⟩
instance : TyZ Try.prog 46 (.nilFunc) := ⟨fun w => by kernel_rfl⟩
instance : TyA Try.prog 47 2 := ⟨fun w => by kernel_rfl, fun w => by kernel_rfl⟩
instance : FieldOff Try.prog 47 0 0 := ⟨fun b k w => by kernel_rfl⟩
instance : FieldOff Try.prog 47 1 1 := ⟨fun b k w => by kernel_rfl⟩
instance : TyZ Try.prog 47 ((.agg #[.slice none 0 0, .slice none 0 0])) := ⟨fun w => by kernel_rfl⟩
instance : TyA Try.prog 48 2 := ⟨fun w => by kernel_rfl, fun w => by kernel_rfl⟩
instance : FieldOff Try.prog 48 0 0 := ⟨fun b k w => by kernel_rfl⟩
instance : FieldOff Try.prog 48 1 1 := ⟨fun b k w => by kernel_rfl⟩
instance : TyZ Try.prog 48 ((.agg #[.slice none 0 0, .slice none 0 0])) := ⟨fun w => by kernel_rfl⟩
instance : TyS Try.prog 49 := ⟨fun w => by kernel_rfl, fun w => by kernel_rfl⟩
instance : TyZ Try.prog 49 (.nilFunc) := ⟨fun w => by kernel_rfl⟩
instance : TyS Try.prog 50 := ⟨fun w => by kernel_rfl, fun w => by kernel_rfl⟩
instance : TyZ Try.prog 50 (.slice none 0 0) := ⟨fun w => by kernel_rfl⟩
instance : SlTy Try.prog 50 54 12 := ⟨by kernel_rfl, fun w => by kernel_rfl⟩
instance : ApTy Try.prog 50 54 12 112 := .of (by kernel_rfl) (by kernel_rfl) (by decide)
instance : TyS Try.prog 51 := ⟨fun w => by kernel_rfl, fun w => by kernel_rfl⟩
instance : TyZ Try.prog 51 (.pointer none) := ⟨fun w => by kernel_rfl⟩
instance : PtrTy Try.prog 51 := ⟨⟨120, by kernel_rfl⟩⟩
instance : TyS Try.prog 52 := ⟨fun w => by kernel_rfl, fun w => by kernel_rfl⟩
instance : TyZ Try.prog 52 (.nilFunc) := ⟨fun w => by kernel_rfl⟩
instance : TyA Try.prog 53 12 := ⟨fun w => by kernel_rfl, fun w => by kernel_rfl⟩
instance : FieldOff Try.prog 53 0 0 := ⟨fun b k w => by kernel_rfl⟩
instance : FieldOff Try.prog 53 1 3 := ⟨fun b k w => by kernel_rfl⟩
instance : FieldOff Try.prog 53 2 6 := ⟨fun b k w => by kernel_rfl⟩
instance : FieldOff Try.prog 53 3 9 := ⟨fun b k w => by kernel_rfl⟩
instance : FieldOff Try.prog 53 4 10 := ⟨fun b k w => by kernel_rfl⟩
instance : FieldOff Try.prog 53 5 11 := ⟨fun b k w => by kernel_rfl⟩
instance : TyZ Try.prog 53 ((.agg #[.int .i64 0, .string ByteArray.empty, .int .i64 0, .int .i64 0, .string ByteArray.empty, .int .i64 0, .int .i64 0, .string ByteArray.empty, .int .i64 0, .bool false, .bool false, .int .i64 0])) := ⟨fun w => by kernel_rfl⟩
instance : TyA Try.prog 54 12 := ⟨fun w => by kernel_rfl, fun w => by kernel_rfl⟩
instance : FieldOff Try.prog 54 0 0 := ⟨fun b k w => by kernel_rfl⟩
instance : FieldOff Try.prog 54 1 3 := ⟨fun b k w => by kernel_rfl⟩
instance : FieldOff Try.prog 54 2 6 := ⟨fun b k w => by kernel_rfl⟩
instance : FieldOff Try.prog 54 3 9 := ⟨fun b k w => by kernel_rfl⟩
instance : FieldOff Try.prog 54 4 10 := ⟨fun b k w => by kernel_rfl⟩
instance : FieldOff Try.prog 54 5 11 := ⟨fun b k w => by kernel_rfl⟩
instance : TyZ Try.prog 54 ((.agg #[.int .i64 0, .string ByteArray.empty, .int .i64 0, .int .i64 0, .string ByteArray.empty, .int .i64 0, .int .i64 0, .string ByteArray.empty, .int .i64 0, .bool false, .bool false, .int .i64 0])) := ⟨fun w => by kernel_rfl⟩
instance : TyS Try.prog 56 := ⟨fun w => by kernel_rfl, fun w => by kernel_rfl⟩
instance : TyZ Try.prog 56 (.nilFunc) := ⟨fun w => by kernel_rfl⟩
instance : TyS Try.prog 57 := ⟨fun w => by kernel_rfl, fun w => by kernel_rfl⟩
instance : TyZ Try.prog 57 (.nilFunc) := ⟨fun w => by kernel_rfl⟩
instance : TyS Try.prog 58 := ⟨fun w => by kernel_rfl, fun w => by kernel_rfl⟩
instance : TyZ Try.prog 58 (.nilFunc) := ⟨fun w => by kernel_rfl⟩
instance : TyS Try.prog 59 := ⟨fun w => by kernel_rfl, fun w => by kernel_rfl⟩
instance : TyZ Try.prog 59 (.nilFunc) := ⟨fun w => by kernel_rfl⟩
instance : TyS Try.prog 60 := ⟨fun w => by kernel_rfl, fun w => by kernel_rfl⟩
instance : TyZ Try.prog 60 (.nilFunc) := ⟨fun w => by kernel_rfl⟩
instance : TyS Try.prog 61 := ⟨fun w => by kernel_rfl, fun w => by kernel_rfl⟩
instance : TyZ Try.prog 61 (.nilFunc) := ⟨fun w => by kernel_rfl⟩
instance : TyS Try.prog 62 := ⟨fun w => by kernel_rfl, fun w => by kernel_rfl⟩
instance : TyZ Try.prog 62 (.nilFunc) := ⟨fun w => by kernel_rfl⟩
instance : TyS Try.prog 63 := ⟨fun w => by kernel_rfl, fun w => by kernel_rfl⟩
instance : TyZ Try.prog 63 (.nilFunc) := ⟨fun w => by kernel_rfl⟩
instance : TyS Try.prog 64 := ⟨fun w => by kernel_rfl, fun w => by kernel_rfl⟩
instance : TyZ Try.prog 64 (.nilFunc) := ⟨fun w => by kernel_rfl⟩
instance : TyS Try.prog 65 := ⟨fun w => by kernel_rfl, fun w => by kernel_rfl⟩
instance : TyZ Try.prog 65 (.nilFunc) := ⟨fun w => by kernel_rfl⟩
instance : TyS Try.prog 66 := ⟨fun w => by kernel_rfl, fun w => by kernel_rfl⟩
instance : TyZ Try.prog 66 (.nilFunc) := ⟨fun w => by kernel_rfl⟩
instance : TyS Try.prog 67 := ⟨fun w => by kernel_rfl, fun w => by kernel_rfl⟩
instance : TyZ Try.prog 67 (.nilFunc) := ⟨fun w => by kernel_rfl⟩
instance : TyS Try.prog 68 := ⟨fun w => by kernel_rfl, fun w => by kernel_rfl⟩
instance : TyZ Try.prog 68 (.nilFunc) := ⟨fun w => by kernel_rfl⟩
instance : TyS Try.prog 69 := ⟨fun w => by kernel_rfl, fun w => by kernel_rfl⟩
instance : TyZ Try.prog 69 (.nilFunc) := ⟨fun w => by kernel_rfl⟩
instance : TyS Try.prog 71 := ⟨fun w => by kernel_rfl, fun w => by kernel_rfl⟩
instance : TyZ Try.prog 71 (.nilFunc) := ⟨fun w => by kernel_rfl⟩
instance : TyS Try.prog 72 := ⟨fun w => by kernel_rfl, fun w => by kernel_rfl⟩
instance : TyZ Try.prog 72 (.nilFunc) := ⟨fun w => by kernel_rfl⟩
instance : TyS Try.prog 73 := ⟨fun w => by kernel_rfl, fun w => by kernel_rfl⟩
instance : TyZ Try.prog 73 (.nilFunc) := ⟨fun w => by kernel_rfl⟩
instance : TyS Try.prog 74 := ⟨fun w => by kernel_rfl, fun w => by kernel_rfl⟩
instance : TyZ Try.prog 74 (.nilFunc) := ⟨fun w => by kernel_rfl⟩
instance : TyS Try.prog 75 := ⟨fun w => by kernel_rfl, fun w => by kernel_rfl⟩
instance : TyZ Try.prog 75 (.nilFunc) := ⟨fun w => by kernel_rfl⟩
instance : TyS Try.prog 76 := ⟨fun w => by kernel_rfl, fun w => by kernel_rfl⟩
instance : TyZ Try.prog 76 (.nilFunc) := ⟨fun w => by kernel_rfl⟩
instance : TyS Try.prog 77 := ⟨fun w => by kernel_rfl, fun w => by kernel_rfl⟩
instance : TyZ Try.prog 77 (.nilFunc) := ⟨fun w => by kernel_rfl⟩
instance : TyS Try.prog 78 := ⟨fun w => by kernel_rfl, fun w => by kernel_rfl⟩
instance : TyZ Try.prog 78 (.nilFunc) := ⟨fun w => by kernel_rfl⟩
instance : TyS Try.prog 79 := ⟨fun w => by kernel_rfl, fun w => by kernel_rfl⟩
instance : TyZ Try.prog 79 (.nilFunc) := ⟨fun w => by kernel_rfl⟩
instance : TyS Try.prog 80 := ⟨fun w => by kernel_rfl, fun w => by kernel_rfl⟩
instance : TyZ Try.prog 80 (.nilFunc) := ⟨fun w => by kernel_rfl⟩
instance : TyS Try.prog 81 := ⟨fun w => by kernel_rfl, fun w => by kernel_rfl⟩
instance : TyZ Try.prog 81 (.slice none 0 0) := ⟨fun w => by kernel_rfl⟩
instance : SlTy Try.prog 81 83 5 := ⟨by kernel_rfl, fun w => by kernel_rfl⟩
instance : ApTy Try.prog 81 83 5 48 := .of (by kernel_rfl) (by kernel_rfl) (by decide)
instance : TyA Try.prog 82 5 := ⟨fun w => by kernel_rfl, fun w => by kernel_rfl⟩
instance : FieldOff Try.prog 82 0 0 := ⟨fun b k w => by kernel_rfl⟩
instance : FieldOff Try.prog 82 1 1 := ⟨fun b k w => by kernel_rfl⟩
instance : FieldOff Try.prog 82 2 2 := ⟨fun b k w => by kernel_rfl⟩
instance : TyZ Try.prog 82 ((.agg #[.int .i64 0, .int .i64 0, .int .i64 0, .string ByteArray.empty, .int .i64 0])) := ⟨fun w => by kernel_rfl⟩
instance : TyA Try.prog 83 5 := ⟨fun w => by kernel_rfl, fun w => by kernel_rfl⟩
instance : FieldOff Try.prog 83 0 0 := ⟨fun b k w => by kernel_rfl⟩
instance : FieldOff Try.prog 83 1 1 := ⟨fun b k w => by kernel_rfl⟩
instance : FieldOff Try.prog 83 2 2 := ⟨fun b k w => by kernel_rfl⟩
instance : TyZ Try.prog 83 ((.agg #[.int .i64 0, .int .i64 0, .int .i64 0, .string ByteArray.empty, .int .i64 0])) := ⟨fun w => by kernel_rfl⟩
instance : TyS Try.prog 84 := ⟨fun w => by kernel_rfl, fun w => by kernel_rfl⟩
instance : TyZ Try.prog 84 (.nilFunc) := ⟨fun w => by kernel_rfl⟩
instance : TyS Try.prog 85 := ⟨fun w => by kernel_rfl, fun w => by kernel_rfl⟩
instance : TyZ Try.prog 85 (.nilFunc) := ⟨fun w => by kernel_rfl⟩
instance : TyS Try.prog 86 := ⟨fun w => by kernel_rfl, fun w => by kernel_rfl⟩
instance : TyZ Try.prog 86 (.nilFunc) := ⟨fun w => by kernel_rfl⟩
instance : TyS Try.prog 88 := ⟨fun w => by kernel_rfl, fun w => by kernel_rfl⟩
instance : TyZ Try.prog 88 (.nilFunc) := ⟨fun w => by kernel_rfl⟩
instance : TyS Try.prog 89 := ⟨fun w => by kernel_rfl, fun w => by kernel_rfl⟩
instance : TyZ Try.prog 89 (.nilFunc) := ⟨fun w => by kernel_rfl⟩
instance : TyS Try.prog 90 := ⟨fun w => by kernel_rfl, fun w => by kernel_rfl⟩
instance : TyZ Try.prog 90 (.pointer none) := ⟨fun w => by kernel_rfl⟩
instance : PtrTy Try.prog 90 := ⟨⟨138, by kernel_rfl⟩⟩
instance : TyS Try.prog 91 := ⟨fun w => by kernel_rfl, fun w => by kernel_rfl⟩
instance : TyZ Try.prog 91 (.nilFunc) := ⟨fun w => by kernel_rfl⟩
instance : TyA Try.prog 92 4 := ⟨fun w => by kernel_rfl, fun w => by kernel_rfl⟩
instance : FieldOff Try.prog 92 0 0 := ⟨fun b k w => by kernel_rfl⟩
instance : FieldOff Try.prog 92 1 3 := ⟨fun b k w => by kernel_rfl⟩
instance : TyZ Try.prog 92 ((.agg #[.int .i64 0, .string ByteArray.empty, .int .i64 0, .slice none 0 0])) := ⟨fun w => by kernel_rfl⟩
instance : TyA Try.prog 93 4 := ⟨fun w => by kernel_rfl, fun w => by kernel_rfl⟩
instance : FieldOff Try.prog 93 0 0 := ⟨fun b k w => by kernel_rfl⟩
instance : FieldOff Try.prog 93 1 3 := ⟨fun b k w => by kernel_rfl⟩
instance : TyZ Try.prog 93 ((.agg #[.int .i64 0, .string ByteArray.empty, .int .i64 0, .slice none 0 0])) := ⟨fun w => by kernel_rfl⟩
instance : TyA Try.prog 94 1 := ⟨fun w => by kernel_rfl, fun w => by kernel_rfl⟩
instance : FieldOff Try.prog 94 0 0 := ⟨fun b k w => by kernel_rfl⟩
instance : TyZ Try.prog 94 ((.agg #[.pointer none])) := ⟨fun w => by kernel_rfl⟩
instance : TyA Try.prog 95 1 := ⟨fun w => by kernel_rfl, fun w => by kernel_rfl⟩
instance : FieldOff Try.prog 95 0 0 := ⟨fun b k w => by kernel_rfl⟩
instance : TyZ Try.prog 95 ((.agg #[.pointer none])) := ⟨fun w => by kernel_rfl⟩
instance : TyS Try.prog 97 := ⟨fun w => by kernel_rfl, fun w => by kernel_rfl⟩
instance : TyZ Try.prog 97 (.nilFunc) := ⟨fun w => by kernel_rfl⟩
instance : TyS Try.prog 98 := ⟨fun w => by kernel_rfl, fun w => by kernel_rfl⟩
instance : TyZ Try.prog 98 (.nilFunc) := ⟨fun w => by kernel_rfl⟩
instance : TyS Try.prog 99 := ⟨fun w => by kernel_rfl, fun w => by kernel_rfl⟩
instance : TyZ Try.prog 99 (.nilFunc) := ⟨fun w => by kernel_rfl⟩
instance : TyS Try.prog 100 := ⟨fun w => by kernel_rfl, fun w => by kernel_rfl⟩
instance : TyZ Try.prog 100 (.nilFunc) := ⟨fun w => by kernel_rfl⟩
instance : TyS Try.prog 101 := ⟨fun w => by kernel_rfl, fun w => by kernel_rfl⟩
instance : TyZ Try.prog 101 (.nilFunc) := ⟨fun w => by kernel_rfl⟩
instance : TyS Try.prog 102 := ⟨fun w => by kernel_rfl, fun w => by kernel_rfl⟩
instance : TyZ Try.prog 102 (.nilFunc) := ⟨fun w => by kernel_rfl⟩
instance : TyS Try.prog 103 := ⟨fun w => by kernel_rfl, fun w => by kernel_rfl⟩
instance : TyZ Try.prog 103 (.nilFunc) := ⟨fun w => by kernel_rfl⟩
instance : TyS Try.prog 104 := ⟨fun w => by kernel_rfl, fun w => by kernel_rfl⟩
instance : TyZ Try.prog 104 (.nilFunc) := ⟨fun w => by kernel_rfl⟩
instance : TyS Try.prog 105 := ⟨fun w => by kernel_rfl, fun w => by kernel_rfl⟩
instance : TyZ Try.prog 105 (.pointer none) := ⟨fun w => by kernel_rfl⟩
instance : PtrTy Try.prog 105 := ⟨⟨145, by kernel_rfl⟩⟩
instance : TyA Try.prog 106 1 := ⟨fun w => by kernel_rfl, fun w => by kernel_rfl⟩
instance : FieldOff Try.prog 106 0 0 := ⟨fun b k w => by kernel_rfl⟩
instance : TyZ Try.prog 106 ((.agg #[.pointer none])) := ⟨fun w => by kernel_rfl⟩
instance : TyA Try.prog 107 1 := ⟨fun w => by kernel_rfl, fun w => by kernel_rfl⟩
instance : FieldOff Try.prog 107 0 0 := ⟨fun b k w => by kernel_rfl⟩
instance : TyZ Try.prog 107 ((.agg #[.pointer none])) := ⟨fun w => by kernel_rfl⟩
instance : TyS Try.prog 108 := ⟨fun w => by kernel_rfl, fun w => by kernel_rfl⟩
instance : TyZ Try.prog 108 (.nilFunc) := ⟨fun w => by kernel_rfl⟩
instance : TyA Try.prog 109 4 := ⟨fun w => by kernel_rfl, fun w => by kernel_rfl⟩
instance : FieldOff Try.prog 109 0 0 := ⟨fun b k w => by kernel_rfl⟩
instance : FieldOff Try.prog 109 1 3 := ⟨fun b k w => by kernel_rfl⟩
instance : TyZ Try.prog 109 ((.agg #[.int .i64 0, .string ByteArray.empty, .int .i64 0, .int .i64 0])) := ⟨fun w => by kernel_rfl⟩
instance : TyA Try.prog 110 4 := ⟨fun w => by kernel_rfl, fun w => by kernel_rfl⟩
instance : FieldOff Try.prog 110 0 0 := ⟨fun b k w => by kernel_rfl⟩
instance : FieldOff Try.prog 110 1 3 := ⟨fun b k w => by kernel_rfl⟩
instance : TyZ Try.prog 110 ((.agg #[.int .i64 0, .string ByteArray.empty, .int .i64 0, .int .i64 0])) := ⟨fun w => by kernel_rfl⟩
instance : TyS Try.prog 112 := ⟨fun w => by kernel_rfl, fun w => by kernel_rfl⟩
instance : TyZ Try.prog 112 (.nilFunc) := ⟨fun w => by kernel_rfl⟩
instance : TyS Try.prog 113 := ⟨fun w => by kernel_rfl, fun w => by kernel_rfl⟩
instance : TyZ Try.prog 113 (.nilFunc) := ⟨fun w => by kernel_rfl⟩
instance : TyS Try.prog 114 := ⟨fun w => by kernel_rfl, fun w => by kernel_rfl⟩
instance : TyZ Try.prog 114 (.nilFunc) := ⟨fun w => by kernel_rfl⟩
instance : TyS Try.prog 115 := ⟨fun w => by kernel_rfl, fun w => by kernel_rfl⟩
instance : TyZ Try.prog 115 (.pointer none) := ⟨fun w => by kernel_rfl⟩
instance : PtrTy Try.prog 115 := ⟨⟨148, by kernel_rfl⟩⟩
instance : TyS Try.prog 116 := ⟨fun w => by kernel_rfl, fun w => by kernel_rfl⟩
instance : TyZ Try.prog 116 (.nilFunc) := ⟨fun w => by kernel_rfl⟩
instance : TyA Try.prog 117 13 := ⟨fun w => by kernel_rfl, fun w => by kernel_rfl⟩
instance : FieldOff Try.prog 117 0 0 := ⟨fun b k w => by kernel_rfl⟩
instance : FieldOff Try.prog 117 1 12 := ⟨fun b k w => by kernel_rfl⟩
instance : TyZ Try.prog 117 ((.agg #[.int .i64 0, .string ByteArray.empty, .int .i64 0, .int .i64 0, .string ByteArray.empty, .int .i64 0, .int .i64 0, .string ByteArray.empty, .int .i64 0, .bool false, .bool false, .int .i64 0, .int .i64 0])) := ⟨fun w => by kernel_rfl⟩
instance : TyA Try.prog 118 13 := ⟨fun w => by kernel_rfl, fun w => by kernel_rfl⟩
instance : FieldOff Try.prog 118 0 0 := ⟨fun b k w => by kernel_rfl⟩
instance : FieldOff Try.prog 118 1 12 := ⟨fun b k w => by kernel_rfl⟩
instance : TyZ Try.prog 118 ((.agg #[.int .i64 0, .string ByteArray.empty, .int .i64 0, .int .i64 0, .string ByteArray.empty, .int .i64 0, .int .i64 0, .string ByteArray.empty, .int .i64 0, .bool false, .bool false, .int .i64 0, .int .i64 0])) := ⟨fun w => by kernel_rfl⟩
instance : TyA Try.prog 119 1 := ⟨fun w => by kernel_rfl, fun w => by kernel_rfl⟩
instance : FieldOff Try.prog 119 0 0 := ⟨fun b k w => by kernel_rfl⟩
instance : TyZ Try.prog 119 ((.agg #[.pointer none])) := ⟨fun w => by kernel_rfl⟩
instance : TyA Try.prog 120 1 := ⟨fun w => by kernel_rfl, fun w => by kernel_rfl⟩
instance : FieldOff Try.prog 120 0 0 := ⟨fun b k w => by kernel_rfl⟩
instance : TyZ Try.prog 120 ((.agg #[.pointer none])) := ⟨fun w => by kernel_rfl⟩
instance : TyS Try.prog 122 := ⟨fun w => by kernel_rfl, fun w => by kernel_rfl⟩
instance : TyZ Try.prog 122 (.nilFunc) := ⟨fun w => by kernel_rfl⟩
instance : TyS Try.prog 123 := ⟨fun w => by kernel_rfl, fun w => by kernel_rfl⟩
instance : TyZ Try.prog 123 (.nilFunc) := ⟨fun w => by kernel_rfl⟩
instance : TyS Try.prog 124 := ⟨fun w => by kernel_rfl, fun w => by kernel_rfl⟩
instance : TyZ Try.prog 124 (.nilFunc) := ⟨fun w => by kernel_rfl⟩
instance : TyS Try.prog 125 := ⟨fun w => by kernel_rfl, fun w => by kernel_rfl⟩
instance : TyZ Try.prog 125 (.nilFunc) := ⟨fun w => by kernel_rfl⟩
instance : TyS Try.prog 126 := ⟨fun w => by kernel_rfl, fun w => by kernel_rfl⟩
instance : TyZ Try.prog 126 (.nilFunc) := ⟨fun w => by kernel_rfl⟩
instance : TyS Try.prog 127 := ⟨fun w => by kernel_rfl, fun w => by kernel_rfl⟩
instance : TyZ Try.prog 127 (.nilFunc) := ⟨fun w => by kernel_rfl⟩
instance : TyS Try.prog 128 := ⟨fun w => by kernel_rfl, fun w => by kernel_rfl⟩
instance : TyZ Try.prog 128 (.nilFunc) := ⟨fun w => by kernel_rfl⟩
instance : TyS Try.prog 129 := ⟨fun w => by kernel_rfl, fun w => by kernel_rfl⟩
instance : TyZ Try.prog 129 (.nilFunc) := ⟨fun w => by kernel_rfl⟩
instance : TyS Try.prog 130 := ⟨fun w => by kernel_rfl, fun w => by kernel_rfl⟩
instance : TyZ Try.prog 130 (.nilFunc) := ⟨fun w => by kernel_rfl⟩
instance : TyS Try.prog 131 := ⟨fun w => by kernel_rfl, fun w => by kernel_rfl⟩
instance : TyZ Try.prog 131 (.nilFunc) := ⟨fun w => by kernel_rfl⟩
instance : TyS Try.prog 132 := ⟨fun w => by kernel_rfl, fun w => by kernel_rfl⟩
instance : TyZ Try.prog 132 (.nilFunc) := ⟨fun w => by kernel_rfl⟩
instance : TyS Try.prog 133 := ⟨fun w => by kernel_rfl, fun w => by kernel_rfl⟩
instance : TyZ Try.prog 133 (.nilFunc) := ⟨fun w => by kernel_rfl⟩
instance : TyS Try.prog 134 := ⟨fun w => by kernel_rfl, fun w => by kernel_rfl⟩
instance : TyZ Try.prog 134 (.nilFunc) := ⟨fun w => by kernel_rfl⟩
instance : TyS Try.prog 135 := ⟨fun w => by kernel_rfl, fun w => by kernel_rfl⟩
instance : TyZ Try.prog 135 (.nilFunc) := ⟨fun w => by kernel_rfl⟩
instance : TyS Try.prog 136 := ⟨fun w => by kernel_rfl, fun w => by kernel_rfl⟩
instance : TyZ Try.prog 136 (.slice none 0 0) := ⟨fun w => by kernel_rfl⟩
instance : SlTy Try.prog 136 93 4 := ⟨by kernel_rfl, fun w => by kernel_rfl⟩
instance : ApTy Try.prog 136 93 4 56 := .of (by kernel_rfl) (by kernel_rfl) (by decide)
instance : TyA Try.prog 137 2 := ⟨fun w => by kernel_rfl, fun w => by kernel_rfl⟩
instance : FieldOff Try.prog 137 0 0 := ⟨fun b k w => by kernel_rfl⟩
instance : FieldOff Try.prog 137 1 1 := ⟨fun b k w => by kernel_rfl⟩
instance : TyZ Try.prog 137 ((.agg #[.slice none 0 0, .bool false])) := ⟨fun w => by kernel_rfl⟩
instance : TyA Try.prog 138 2 := ⟨fun w => by kernel_rfl, fun w => by kernel_rfl⟩
instance : FieldOff Try.prog 138 0 0 := ⟨fun b k w => by kernel_rfl⟩
instance : FieldOff Try.prog 138 1 1 := ⟨fun b k w => by kernel_rfl⟩
instance : TyZ Try.prog 138 ((.agg #[.slice none 0 0, .bool false])) := ⟨fun w => by kernel_rfl⟩
instance : TyS Try.prog 139 := ⟨fun w => by kernel_rfl, fun w => by kernel_rfl⟩
instance : TyZ Try.prog 139 (.nilFunc) := ⟨fun w => by kernel_rfl⟩
instance : TyS Try.prog 140 := ⟨fun w => by kernel_rfl, fun w => by kernel_rfl⟩
instance : TyZ Try.prog 140 (.nilFunc) := ⟨fun w => by kernel_rfl⟩
instance : TyS Try.prog 141 := ⟨fun w => by kernel_rfl, fun w => by kernel_rfl⟩
instance : TyZ Try.prog 141 (.nilFunc) := ⟨fun w => by kernel_rfl⟩
instance : TyS Try.prog 142 := ⟨fun w => by kernel_rfl, fun w => by kernel_rfl⟩
instance : TyZ Try.prog 142 (.nilFunc) := ⟨fun w => by kernel_rfl⟩
instance : TyS Try.prog 143 := ⟨fun w => by kernel_rfl, fun w => by kernel_rfl⟩
instance : TyZ Try.prog 143 (.slice none 0 0) := ⟨fun w => by kernel_rfl⟩
instance : SlTy Try.prog 143 110 4 := ⟨by kernel_rfl, fun w => by kernel_rfl⟩
instance : ApTy Try.prog 143 110 4 40 := .of (by kernel_rfl) (by kernel_rfl) (by decide)
instance : TyA Try.prog 144 2 := ⟨fun w => by kernel_rfl, fun w => by kernel_rfl⟩
instance : FieldOff Try.prog 144 0 0 := ⟨fun b k w => by kernel_rfl⟩
instance : FieldOff Try.prog 144 1 1 := ⟨fun b k w => by kernel_rfl⟩
instance : TyZ Try.prog 144 ((.agg #[.slice none 0 0, .bool false])) := ⟨fun w => by kernel_rfl⟩
instance : TyA Try.prog 145 2 := ⟨fun w => by kernel_rfl, fun w => by kernel_rfl⟩
instance : FieldOff Try.prog 145 0 0 := ⟨fun b k w => by kernel_rfl⟩
instance : FieldOff Try.prog 145 1 1 := ⟨fun b k w => by kernel_rfl⟩
instance : TyZ Try.prog 145 ((.agg #[.slice none 0 0, .bool false])) := ⟨fun w => by kernel_rfl⟩
instance : TyS Try.prog 146 := ⟨fun w => by kernel_rfl, fun w => by kernel_rfl⟩
instance : TyZ Try.prog 146 (.slice none 0 0) := ⟨fun w => by kernel_rfl⟩
instance : SlTy Try.prog 146 118 13 := ⟨by kernel_rfl, fun w => by kernel_rfl⟩
instance : ApTy Try.prog 146 118 13 120 := .of (by kernel_rfl) (by kernel_rfl) (by decide)
instance : TyA Try.prog 147 2 := ⟨fun w => by kernel_rfl, fun w => by kernel_rfl⟩
instance : FieldOff Try.prog 147 0 0 := ⟨fun b k w => by kernel_rfl⟩
instance : FieldOff Try.prog 147 1 1 := ⟨fun b k w => by kernel_rfl⟩
instance : TyZ Try.prog 147 ((.agg #[.slice none 0 0, .bool false])) := ⟨fun w => by kernel_rfl⟩
instance : TyA Try.prog 148 2 := ⟨fun w => by kernel_rfl, fun w => by kernel_rfl⟩
instance : FieldOff Try.prog 148 0 0 := ⟨fun b k w => by kernel_rfl⟩
instance : FieldOff Try.prog 148 1 1 := ⟨fun b k w => by kernel_rfl⟩
instance : TyZ Try.prog 148 ((.agg #[.slice none 0 0, .bool false])) := ⟨fun w => by kernel_rfl⟩
instance : TyS Try.prog 149 := ⟨fun w => by kernel_rfl, fun w => by kernel_rfl⟩
instance : TyZ Try.prog 149 (.nilFunc) := ⟨fun w => by kernel_rfl⟩
instance : TyS Try.prog 150 := ⟨fun w => by kernel_rfl, fun w => by kernel_rfl⟩
instance : TyZ Try.prog 150 (.nilFunc) := ⟨fun w => by kernel_rfl⟩
instance : TyS Try.prog 151 := ⟨fun w => by kernel_rfl, fun w => by kernel_rfl⟩
instance : TyZ Try.prog 151 (.nilFunc) := ⟨fun w => by kernel_rfl⟩
instance : TyS Try.prog 152 := ⟨fun w => by kernel_rfl, fun w => by kernel_rfl⟩
instance : TyZ Try.prog 152 (.nilFunc) := ⟨fun w => by kernel_rfl⟩
instance : TyS Try.prog 153 := ⟨fun w => by kernel_rfl, fun w => by kernel_rfl⟩
instance : TyZ Try.prog 153 (.nilFunc) := ⟨fun w => by kernel_rfl⟩
instance : TyS Try.prog 154 := ⟨fun w => by kernel_rfl, fun w => by kernel_rfl⟩
instance : TyZ Try.prog 154 (.nilFunc) := ⟨fun w => by kernel_rfl⟩
instance : TyS Try.prog 155 := ⟨fun w => by kernel_rfl, fun w => by kernel_rfl⟩
instance : TyZ Try.prog 155 (.nilFunc) := ⟨fun w => by kernel_rfl⟩
instance : TyS Try.prog 161 := ⟨fun w => by kernel_rfl, fun w => by kernel_rfl⟩
instance : TyZ Try.prog 161 (.int .u32 0) := ⟨fun w => by kernel_rfl⟩
instance : TyS Try.prog 162 := ⟨fun w => by kernel_rfl, fun w => by kernel_rfl⟩
instance : TyZ Try.prog 162 (.int .u8 0) := ⟨fun w => by kernel_rfl⟩
instance : TyS Try.prog 163 := ⟨fun w => by kernel_rfl, fun w => by kernel_rfl⟩
instance : TyZ Try.prog 163 (.int .u8 0) := ⟨fun w => by kernel_rfl⟩
instance : TyS Try.prog 164 := ⟨fun w => by kernel_rfl, fun w => by kernel_rfl⟩
instance : TyZ Try.prog 164 (.nilFunc) := ⟨fun w => by kernel_rfl⟩
instance : TyS Try.prog 165 := ⟨fun w => by kernel_rfl, fun w => by kernel_rfl⟩
instance : TyZ Try.prog 165 (.pointer none) := ⟨fun w => by kernel_rfl⟩
instance : PtrTy Try.prog 165 := ⟨⟨5, by kernel_rfl⟩⟩
instance : TyS Try.prog 166 := ⟨fun w => by kernel_rfl, fun w => by kernel_rfl⟩
instance : TyZ Try.prog 166 (.int .i32 0) := ⟨fun w => by kernel_rfl⟩
instance : TyS Try.prog 167 := ⟨fun w => by kernel_rfl, fun w => by kernel_rfl⟩
instance : TyZ Try.prog 167 (.int .i32 0) := ⟨fun w => by kernel_rfl⟩
instance : TyS Try.prog 170 := ⟨fun w => by kernel_rfl, fun w => by kernel_rfl⟩
instance : TyZ Try.prog 170 (.nilFunc) := ⟨fun w => by kernel_rfl⟩
instance : TyS Try.prog 171 := ⟨fun w => by kernel_rfl, fun w => by kernel_rfl⟩
instance : TyZ Try.prog 171 (.nilFunc) := ⟨fun w => by kernel_rfl⟩
instance : TyS Try.prog 172 := ⟨fun w => by kernel_rfl, fun w => by kernel_rfl⟩
instance : TyZ Try.prog 172 (.nilFunc) := ⟨fun w => by kernel_rfl⟩
instance : TyS Try.prog 173 := ⟨fun w => by kernel_rfl, fun w => by kernel_rfl⟩
instance : TyZ Try.prog 173 (.nilFunc) := ⟨fun w => by kernel_rfl⟩
instance : TyS Try.prog 174 := ⟨fun w => by kernel_rfl, fun w => by kernel_rfl⟩
instance : TyZ Try.prog 174 (.nilFunc) := ⟨fun w => by kernel_rfl⟩
instance : TyS Try.prog 175 := ⟨fun w => by kernel_rfl, fun w => by kernel_rfl⟩
instance : TyZ Try.prog 175 (.nilFunc) := ⟨fun w => by kernel_rfl⟩
instance : TyS Try.prog 176 := ⟨fun w => by kernel_rfl, fun w => by kernel_rfl⟩
instance : TyZ Try.prog 176 (.nilFunc) := ⟨fun w => by kernel_rfl⟩
instance : TyS Try.prog 177 := ⟨fun w => by kernel_rfl, fun w => by kernel_rfl⟩
instance : TyZ Try.prog 177 (.nilFunc) := ⟨fun w => by kernel_rfl⟩
instance : TyS Try.prog 178 := ⟨fun w => by kernel_rfl, fun w => by kernel_rfl⟩
instance : TyZ Try.prog 178 (.nilFunc) := ⟨fun w => by kernel_rfl⟩
instance : TyS Try.prog 179 := ⟨fun w => by kernel_rfl, fun w => by kernel_rfl⟩
instance : TyZ Try.prog 179 (.nilFunc) := ⟨fun w => by kernel_rfl⟩
instance : TyS Try.prog 180 := ⟨fun w => by kernel_rfl, fun w => by kernel_rfl⟩
instance : TyZ Try.prog 180 (.nilFunc) := ⟨fun w => by kernel_rfl⟩
instance : TyS Try.prog 181 := ⟨fun w => by kernel_rfl, fun w => by kernel_rfl⟩
instance : TyZ Try.prog 181 (.nilFunc) := ⟨fun w => by kernel_rfl⟩
instance : TyS Try.prog 182 := ⟨fun w => by kernel_rfl, fun w => by kernel_rfl⟩
instance : TyZ Try.prog 182 (.nilFunc) := ⟨fun w => by kernel_rfl⟩
instance : TyS Try.prog 183 := ⟨fun w => by kernel_rfl, fun w => by kernel_rfl⟩
instance : TyZ Try.prog 183 (.nilFunc) := ⟨fun w => by kernel_rfl⟩
instance : TyS Try.prog 184 := ⟨fun w => by kernel_rfl, fun w => by kernel_rfl⟩
instance : TyZ Try.prog 184 (.nilFunc) := ⟨fun w => by kernel_rfl⟩
instance : TyS Try.prog 185 := ⟨fun w => by kernel_rfl, fun w => by kernel_rfl⟩
instance : TyZ Try.prog 185 (.nilFunc) := ⟨fun w => by kernel_rfl⟩
instance : TyS Try.prog 187 := ⟨fun w => by kernel_rfl, fun w => by kernel_rfl⟩
instance : TyZ Try.prog 187 (.nilFunc) := ⟨fun w => by kernel_rfl⟩
instance : TyS Try.prog 188 := ⟨fun w => by kernel_rfl, fun w => by kernel_rfl⟩
instance : TyZ Try.prog 188 (.nilFunc) := ⟨fun w => by kernel_rfl⟩
instance : En Try.prog 3 := ⟨enters_of Try.func3 (by kernel_rfl) rfl⟩
instance : En Try.prog 4 := ⟨enters_of Try.func4 (by kernel_rfl) rfl⟩
instance : En Try.prog 5 := ⟨enters_of Try.func5 (by kernel_rfl) rfl⟩
instance : En Try.prog 6 := ⟨enters_of Try.func6 (by kernel_rfl) rfl⟩
instance : En Try.prog 7 := ⟨enters_of Try.func7 (by kernel_rfl) rfl⟩
instance : En Try.prog 8 := ⟨enters_of Try.func8 (by kernel_rfl) rfl⟩
instance : En Try.prog 9 := ⟨enters_of Try.func9 (by kernel_rfl) rfl⟩
instance : En Try.prog 10 := ⟨enters_of Try.func10 (by kernel_rfl) rfl⟩
instance : En Try.prog 11 := ⟨enters_of Try.func11 (by kernel_rfl) rfl⟩
instance : En Try.prog 12 := ⟨enters_of Try.func12 (by kernel_rfl) rfl⟩
instance : En Try.prog 13 := ⟨enters_of Try.func13 (by kernel_rfl) rfl⟩
instance : En Try.prog 14 := ⟨enters_of Try.func14 (by kernel_rfl) rfl⟩
instance : En Try.prog 15 := ⟨enters_of Try.func15 (by kernel_rfl) rfl⟩
instance : En Try.prog 16 := ⟨enters_of Try.func16 (by kernel_rfl) rfl⟩
instance : En Try.prog 17 := ⟨enters_of Try.func17 (by kernel_rfl) rfl⟩
instance : En Try.prog 18 := ⟨enters_of Try.func18 (by kernel_rfl) rfl⟩
instance : En Try.prog 19 := ⟨enters_of Try.func19 (by kernel_rfl) rfl⟩
instance : En Try.prog 20 := ⟨enters_of Try.func20 (by kernel_rfl) rfl⟩
instance : En Try.prog 21 := ⟨enters_of Try.func21 (by kernel_rfl) rfl⟩
instance : En Try.prog 22 := ⟨enters_of Try.func22 (by kernel_rfl) rfl⟩
instance : En Try.prog 23 := ⟨enters_of Try.func23 (by kernel_rfl) rfl⟩
instance : En Try.prog 24 := ⟨enters_of Try.func24 (by kernel_rfl) rfl⟩
instance : En Try.prog 25 := ⟨enters_of Try.func25 (by kernel_rfl) rfl⟩
instance : En Try.prog 26 := ⟨enters_of Try.func26 (by kernel_rfl) rfl⟩
instance : En Try.prog 27 := ⟨enters_of Try.func27 (by kernel_rfl) rfl⟩
instance : En Try.prog 28 := ⟨enters_of Try.func28 (by kernel_rfl) rfl⟩
instance : En Try.prog 29 := ⟨enters_of Try.func29 (by kernel_rfl) rfl⟩
instance : En Try.prog 30 := ⟨enters_of Try.func30 (by kernel_rfl) rfl⟩
instance : En Try.prog 31 := ⟨enters_of Try.func31 (by kernel_rfl) rfl⟩
instance : En Try.prog 32 := ⟨enters_of Try.func32 (by kernel_rfl) rfl⟩
instance : En Try.prog 33 := ⟨enters_of Try.func33 (by kernel_rfl) rfl⟩
instance : En Try.prog 34 := ⟨enters_of Try.func34 (by kernel_rfl) rfl⟩
instance : En Try.prog 35 := ⟨enters_of Try.func35 (by kernel_rfl) rfl⟩
instance : En Try.prog 36 := ⟨enters_of Try.func36 (by kernel_rfl) rfl⟩
instance : En Try.prog 37 := ⟨enters_of Try.func37 (by kernel_rfl) rfl⟩
instance : En Try.prog 38 := ⟨enters_of Try.func38 (by kernel_rfl) rfl⟩
instance : En Try.prog 39 := ⟨enters_of Try.func39 (by kernel_rfl) rfl⟩
instance : En Try.prog 40 := ⟨enters_of Try.func40 (by kernel_rfl) rfl⟩
instance : En Try.prog 41 := ⟨enters_of Try.func41 (by kernel_rfl) rfl⟩
instance : En Try.prog 42 := ⟨enters_of Try.func42 (by kernel_rfl) rfl⟩
instance : En Try.prog 43 := ⟨enters_of Try.func43 (by kernel_rfl) rfl⟩
instance : En Try.prog 44 := ⟨enters_of Try.func44 (by kernel_rfl) rfl⟩
instance : En Try.prog 45 := ⟨enters_of Try.func45 (by kernel_rfl) rfl⟩
instance : En Try.prog 46 := ⟨enters_of Try.func46 (by kernel_rfl) rfl⟩
instance : En Try.prog 47 := ⟨enters_of Try.func47 (by kernel_rfl) rfl⟩
instance : En Try.prog 48 := ⟨enters_of Try.func48 (by kernel_rfl) rfl⟩
instance : En Try.prog 49 := ⟨enters_of Try.func49 (by kernel_rfl) rfl⟩
instance : En Try.prog 50 := ⟨enters_of Try.func50 (by kernel_rfl) rfl⟩
instance : En Try.prog 51 := ⟨enters_of Try.func51 (by kernel_rfl) rfl⟩
instance : En Try.prog 52 := ⟨enters_of Try.func52 (by kernel_rfl) rfl⟩
instance : En Try.prog 53 := ⟨enters_of Try.func53 (by kernel_rfl) rfl⟩
instance : En Try.prog 54 := ⟨enters_of Try.func54 (by kernel_rfl) rfl⟩
instance : En Try.prog 55 := ⟨enters_of Try.func55 (by kernel_rfl) rfl⟩
instance : En Try.prog 56 := ⟨enters_of Try.func56 (by kernel_rfl) rfl⟩
instance : En Try.prog 57 := ⟨enters_of Try.func57 (by kernel_rfl) rfl⟩
instance : En Try.prog 58 := ⟨enters_of Try.func58 (by kernel_rfl) rfl⟩
instance : En Try.prog 59 := ⟨enters_of Try.func59 (by kernel_rfl) rfl⟩
instance : En Try.prog 60 := ⟨enters_of Try.func60 (by kernel_rfl) rfl⟩
instance : En Try.prog 61 := ⟨enters_of Try.func61 (by kernel_rfl) rfl⟩
instance : En Try.prog 62 := ⟨enters_of Try.func62 (by kernel_rfl) rfl⟩
instance : En Try.prog 63 := ⟨enters_of Try.func63 (by kernel_rfl) rfl⟩
instance : En Try.prog 64 := ⟨enters_of Try.func64 (by kernel_rfl) rfl⟩
instance : En Try.prog 65 := ⟨enters_of Try.func65 (by kernel_rfl) rfl⟩
instance : En Try.prog 66 := ⟨enters_of Try.func66 (by kernel_rfl) rfl⟩
instance : En Try.prog 67 := ⟨enters_of Try.func67 (by kernel_rfl) rfl⟩
instance : En Try.prog 68 := ⟨enters_of Try.func68 (by kernel_rfl) rfl⟩
instance : En Try.prog 69 := ⟨enters_of Try.func69 (by kernel_rfl) rfl⟩
instance : En Try.prog 70 := ⟨enters_of Try.func70 (by kernel_rfl) rfl⟩
instance : En Try.prog 71 := ⟨enters_of Try.func71 (by kernel_rfl) rfl⟩
instance : En Try.prog 72 := ⟨enters_of Try.func72 (by kernel_rfl) rfl⟩
instance : En Try.prog 73 := ⟨enters_of Try.func73 (by kernel_rfl) rfl⟩
instance : En Try.prog 74 := ⟨enters_of Try.func74 (by kernel_rfl) rfl⟩
instance : En Try.prog 75 := ⟨enters_of Try.func75 (by kernel_rfl) rfl⟩
instance : En Try.prog 76 := ⟨enters_of Try.func76 (by kernel_rfl) rfl⟩
instance : En Try.prog 77 := ⟨enters_of Try.func77 (by kernel_rfl) rfl⟩
instance : En Try.prog 78 := ⟨enters_of Try.func78 (by kernel_rfl) rfl⟩
instance : En Try.prog 79 := ⟨enters_of Try.func79 (by kernel_rfl) rfl⟩
instance : En Try.prog 80 := ⟨enters_of Try.func80 (by kernel_rfl) rfl⟩
instance : En Try.prog 81 := ⟨enters_of Try.func81 (by kernel_rfl) rfl⟩
instance : En Try.prog 82 := ⟨enters_of Try.func82 (by kernel_rfl) rfl⟩
instance : En Try.prog 83 := ⟨enters_of Try.func83 (by kernel_rfl) rfl⟩
instance : En Try.prog 84 := ⟨enters_of Try.func84 (by kernel_rfl) rfl⟩
instance : En Try.prog 85 := ⟨enters_of Try.func85 (by kernel_rfl) rfl⟩
instance : En Try.prog 86 := ⟨enters_of Try.func86 (by kernel_rfl) rfl⟩
instance : En Try.prog 87 := ⟨enters_of Try.func87 (by kernel_rfl) rfl⟩
instance : En Try.prog 88 := ⟨enters_of Try.func88 (by kernel_rfl) rfl⟩
instance : En Try.prog 89 := ⟨enters_of Try.func89 (by kernel_rfl) rfl⟩
instance : En Try.prog 90 := ⟨enters_of Try.func90 (by kernel_rfl) rfl⟩
instance : En Try.prog 91 := ⟨enters_of Try.func91 (by kernel_rfl) rfl⟩
instance : En Try.prog 114 := ⟨enters_of Try.func114 (by kernel_rfl) rfl⟩
instance : En Try.prog 115 := ⟨enters_of Try.func115 (by kernel_rfl) rfl⟩
instance : En Try.prog 116 := ⟨enters_of Try.func116 (by kernel_rfl) rfl⟩
instance : En Try.prog 117 := ⟨enters_of Try.func117 (by kernel_rfl) rfl⟩
instance : En Try.prog 118 := ⟨enters_of Try.func118 (by kernel_rfl) rfl⟩
instance : En Try.prog 124 := ⟨enters_of Try.func124 (by kernel_rfl) rfl⟩
instance : En Try.prog 129 := ⟨enters_of Try.func129 (by kernel_rfl) rfl⟩
instance : En Try.prog 130 := ⟨enters_of Try.func130 (by kernel_rfl) rfl⟩
instance : En Try.prog 134 := ⟨enters_of Try.func134 (by kernel_rfl) rfl⟩
end Go.Proofs.Ytlognaddmbolgaa
