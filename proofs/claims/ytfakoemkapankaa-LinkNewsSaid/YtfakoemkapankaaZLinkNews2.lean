/- Parts of a proof, in order. -/
import Derived.Test.YtfakoemkapankaaZLinkNews1
import Derived.Test.YtfakoemkapankaaProg
import Derived.KernelRfl
import Derived.Laws.StructEq
import Derived.Laws.MakeOwn

/- The facts on types and functions of this translation that the walk looks up. Written by gen_ty.py. -/
namespace Go.Proofs.Ytfakoemkapankaa
open Go Go.Sl

theorem mixed : Try.prog.follows .mixedOrders = true := by kernel_rfl
instance : TyS Try.prog 1 := ⟨fun w => by kernel_rfl, fun w => by kernel_rfl⟩
instance : TyZ Try.prog 1 (.nilFunc) := ⟨fun w => by kernel_rfl⟩
instance : TyS Try.prog 2 := ⟨fun w => by kernel_rfl, fun w => by kernel_rfl⟩
instance : TyZ Try.prog 2 (.int .i64 0) := ⟨fun w => by kernel_rfl⟩
instance : TyS Try.prog 3 := ⟨fun w => by kernel_rfl, fun w => by kernel_rfl⟩
instance : TyZ Try.prog 3 (.int .i64 0) := ⟨fun w => by kernel_rfl⟩
instance : TyS Try.prog 4 := ⟨fun w => by kernel_rfl, fun w => by kernel_rfl⟩
instance : TyZ Try.prog 4 (.bool false) := ⟨fun w => by kernel_rfl⟩
instance : TyS Try.prog 5 := ⟨fun w => by kernel_rfl, fun w => by kernel_rfl⟩
instance : TyZ Try.prog 5 (.int .u8 0) := ⟨fun w => by kernel_rfl⟩
instance : TyS Try.prog 6 := ⟨fun w => by kernel_rfl, fun w => by kernel_rfl⟩
instance : TyZ Try.prog 6 (.int .u8 0) := ⟨fun w => by kernel_rfl⟩
instance : TyS Try.prog 9 := ⟨fun w => by kernel_rfl, fun w => by kernel_rfl⟩
instance : TyZ Try.prog 9 (.string ByteArray.empty) := ⟨fun w => by kernel_rfl⟩
instance : TyS Try.prog 10 := ⟨fun w => by kernel_rfl, fun w => by kernel_rfl⟩
instance : TyZ Try.prog 10 (.string ByteArray.empty) := ⟨fun w => by kernel_rfl⟩
instance : TyS Try.prog 11 := ⟨fun w => by kernel_rfl, fun w => by kernel_rfl⟩
instance : TyZ Try.prog 11 (.string ByteArray.empty) := ⟨fun w => by kernel_rfl⟩
instance : TyS Try.prog 12 := ⟨fun w => by kernel_rfl, fun w => by kernel_rfl⟩
instance : TyZ Try.prog 12 (.int .u64 0) := ⟨fun w => by kernel_rfl⟩
instance : TyS Try.prog 15 := ⟨fun w => by kernel_rfl, fun w => by kernel_rfl⟩
instance : TyZ Try.prog 15 (.pointer none) := ⟨fun w => by kernel_rfl⟩
instance : PtrTy Try.prog 15 := ⟨⟨318, by kernel_rfl⟩⟩
instance : TyS Try.prog 16 := ⟨fun w => by kernel_rfl, fun w => by kernel_rfl⟩
instance : TyZ Try.prog 16 (.pointer none) := ⟨fun w => by kernel_rfl⟩
instance : PtrTy Try.prog 16 := ⟨⟨321, by kernel_rfl⟩⟩
instance : TyS Try.prog 17 := ⟨fun w => by kernel_rfl, fun w => by kernel_rfl⟩
instance : TyZ Try.prog 17 (.pointer none) := ⟨fun w => by kernel_rfl⟩
instance : PtrTy Try.prog 17 := ⟨⟨330, by kernel_rfl⟩⟩
instance : TyS Try.prog 21 := ⟨fun w => by kernel_rfl, fun w => by kernel_rfl⟩
instance : TyZ Try.prog 21 (.int .i32 0) := ⟨fun w => by kernel_rfl⟩
instance : TyS Try.prog 22 := ⟨fun w => by kernel_rfl, fun w => by kernel_rfl⟩
instance : TyZ Try.prog 22 (.slice none 0 0) := ⟨fun w => by kernel_rfl⟩
instance : SlTy Try.prog 22 25 3 := ⟨by kernel_rfl, fun w => by kernel_rfl⟩
instance : ApTy Try.prog 22 25 3 32 := .of (by kernel_rfl) (by kernel_rfl) (by decide)
instance : TyS Try.prog 23 := ⟨fun w => by kernel_rfl, fun w => by kernel_rfl⟩
instance : TyZ Try.prog 23 (.slice none 0 0) := ⟨fun w => by kernel_rfl⟩
instance : SlTy Try.prog 23 35 12 := ⟨by kernel_rfl, fun w => by kernel_rfl⟩
instance : ApTy Try.prog 23 35 12 112 := .of (by kernel_rfl) (by kernel_rfl) (by decide)
instance : TyA Try.prog 24 3 := ⟨fun w => by kernel_rfl, fun w => by kernel_rfl⟩
instance : FieldOff Try.prog 24 0 0 := ⟨fun b k w => by kernel_rfl⟩
instance : FieldOff Try.prog 24 1 1 := ⟨fun b k w => by kernel_rfl⟩
instance : FieldOff Try.prog 24 2 2 := ⟨fun b k w => by kernel_rfl⟩
instance : TyZ Try.prog 24 ((.agg #[.int .i64 0, .string ByteArray.empty, .int .i64 0])) := ⟨fun w => by kernel_rfl⟩
instance : TyA Try.prog 25 3 := ⟨fun w => by kernel_rfl, fun w => by kernel_rfl⟩
instance : FieldOff Try.prog 25 0 0 := ⟨fun b k w => by kernel_rfl⟩
instance : FieldOff Try.prog 25 1 1 := ⟨fun b k w => by kernel_rfl⟩
instance : FieldOff Try.prog 25 2 2 := ⟨fun b k w => by kernel_rfl⟩
instance : TyZ Try.prog 25 ((.agg #[.int .i64 0, .string ByteArray.empty, .int .i64 0])) := ⟨fun w => by kernel_rfl⟩
instance : TyS Try.prog 26 := ⟨fun w => by kernel_rfl, fun w => by kernel_rfl⟩
instance : TyZ Try.prog 26 (.nilFunc) := ⟨fun w => by kernel_rfl⟩
instance : TyS Try.prog 27 := ⟨fun w => by kernel_rfl, fun w => by kernel_rfl⟩
instance : TyZ Try.prog 27 (.nilFunc) := ⟨fun w => by kernel_rfl⟩
instance : TyS Try.prog 28 := ⟨fun w => by kernel_rfl, fun w => by kernel_rfl⟩
instance : TyZ Try.prog 28 (.slice none 0 0) := ⟨fun w => by kernel_rfl⟩
instance : SlTy Try.prog 28 37 4 := ⟨by kernel_rfl, fun w => by kernel_rfl⟩
instance : ApTy Try.prog 28 37 4 40 := .of (by kernel_rfl) (by kernel_rfl) (by decide)
instance : TyS Try.prog 29 := ⟨fun w => by kernel_rfl, fun w => by kernel_rfl⟩
instance : TyZ Try.prog 29 (.nilFunc) := ⟨fun w => by kernel_rfl⟩
instance : TyS Try.prog 30 := ⟨fun w => by kernel_rfl, fun w => by kernel_rfl⟩
instance : TyZ Try.prog 30 (.nilFunc) := ⟨fun w => by kernel_rfl⟩
instance : TyS Try.prog 31 := ⟨fun w => by kernel_rfl, fun w => by kernel_rfl⟩
instance : TyZ Try.prog 31 (.nilFunc) := ⟨fun w => by kernel_rfl⟩
instance : TyS Try.prog 32 := ⟨fun w => by kernel_rfl, fun w => by kernel_rfl⟩
instance : TyZ Try.prog 32 (.nilFunc) := ⟨fun w => by kernel_rfl⟩
instance : TyS Try.prog 33 := ⟨fun w => by kernel_rfl, fun w => by kernel_rfl⟩
instance : TyZ Try.prog 33 (.nilFunc) := ⟨fun w => by kernel_rfl⟩
instance : TyA Try.prog 34 12 := ⟨fun w => by kernel_rfl, fun w => by kernel_rfl⟩
instance : FieldOff Try.prog 34 0 0 := ⟨fun b k w => by kernel_rfl⟩
instance : FieldOff Try.prog 34 1 3 := ⟨fun b k w => by kernel_rfl⟩
instance : FieldOff Try.prog 34 2 6 := ⟨fun b k w => by kernel_rfl⟩
instance : FieldOff Try.prog 34 3 9 := ⟨fun b k w => by kernel_rfl⟩
instance : FieldOff Try.prog 34 4 10 := ⟨fun b k w => by kernel_rfl⟩
instance : FieldOff Try.prog 34 5 11 := ⟨fun b k w => by kernel_rfl⟩
instance : TyZ Try.prog 34 ((.agg #[.int .i64 0, .string ByteArray.empty, .int .i64 0, .int .i64 0, .string ByteArray.empty, .int .i64 0, .int .i64 0, .string ByteArray.empty, .int .i64 0, .bool false, .bool false, .int .i64 0])) := ⟨fun w => by kernel_rfl⟩
instance : TyA Try.prog 35 12 := ⟨fun w => by kernel_rfl, fun w => by kernel_rfl⟩
instance : FieldOff Try.prog 35 0 0 := ⟨fun b k w => by kernel_rfl⟩
instance : FieldOff Try.prog 35 1 3 := ⟨fun b k w => by kernel_rfl⟩
instance : FieldOff Try.prog 35 2 6 := ⟨fun b k w => by kernel_rfl⟩
instance : FieldOff Try.prog 35 3 9 := ⟨fun b k w => by kernel_rfl⟩
instance : FieldOff Try.prog 35 4 10 := ⟨fun b k w => by kernel_rfl⟩
instance : FieldOff Try.prog 35 5 11 := ⟨fun b k w => by kernel_rfl⟩
instance : TyZ Try.prog 35 ((.agg #[.int .i64 0, .string ByteArray.empty, .int .i64 0, .int .i64 0, .string ByteArray.empty, .int .i64 0, .int .i64 0, .string ByteArray.empty, .int .i64 0, .bool false, .bool false, .int .i64 0])) := ⟨fun w => by kernel_rfl⟩
instance : TyA Try.prog 36 4 := ⟨fun w => by kernel_rfl, fun w => by kernel_rfl⟩
instance : FieldOff Try.prog 36 0 0 := ⟨fun b k w => by kernel_rfl⟩
instance : FieldOff Try.prog 36 1 3 := ⟨fun b k w => by kernel_rfl⟩
instance : TyZ Try.prog 36 ((.agg #[.int .i64 0, .string ByteArray.empty, .int .i64 0, .int .i64 0])) := ⟨fun w => by kernel_rfl⟩
instance : TyA Try.prog 37 4 := ⟨fun w => by kernel_rfl, fun w => by kernel_rfl⟩
instance : FieldOff Try.prog 37 0 0 := ⟨fun b k w => by kernel_rfl⟩
instance : FieldOff Try.prog 37 1 3 := ⟨fun b k w => by kernel_rfl⟩
instance : TyZ Try.prog 37 ((.agg #[.int .i64 0, .string ByteArray.empty, .int .i64 0, .int .i64 0])) := ⟨fun w => by kernel_rfl⟩
instance : TyS Try.prog 38 := ⟨fun w => by kernel_rfl, fun w => by kernel_rfl⟩
instance : TyZ Try.prog 38 (.nilFunc) := ⟨fun w => by kernel_rfl⟩
instance : TyS Try.prog 39 := ⟨fun w => by kernel_rfl, fun w => by kernel_rfl⟩
instance : TyZ Try.prog 39 (.nilFunc) := ⟨fun w => by kernel_rfl⟩
instance : TyS Try.prog 40 := ⟨fun w => by kernel_rfl, fun w => by kernel_rfl⟩
instance : TyZ Try.prog 40 (.nilFunc) := ⟨fun w => by kernel_rfl⟩
instance : TyS Try.prog 41 := ⟨fun w => by kernel_rfl, fun w => by kernel_rfl⟩
instance : TyZ Try.prog 41 (.nilFunc) := ⟨fun w => by kernel_rfl⟩
instance : TyS Try.prog 42 := ⟨fun w => by kernel_rfl, fun w => by kernel_rfl⟩
instance : TyZ Try.prog 42 (.nilFunc) := ⟨fun w => by kernel_rfl⟩
instance : TyS Try.prog 43 := ⟨fun w => by kernel_rfl, fun w => by kernel_rfl⟩
instance : TyZ Try.prog 43 (.nilFunc) := ⟨fun w => by kernel_rfl⟩
instance : TyS Try.prog 44 := ⟨fun w => by kernel_rfl, fun w => by kernel_rfl⟩
instance : TyZ Try.prog 44 (.nilFunc) := ⟨fun w => by kernel_rfl⟩
instance : TyS Try.prog 45 := ⟨fun w => by kernel_rfl, fun w => by kernel_rfl⟩
instance : TyZ Try.prog 45 (.nilFunc) := ⟨fun w => by kernel_rfl⟩
instance : TyS Try.prog 46 := ⟨fun w => by kernel_rfl, fun w => by kernel_rfl⟩
instance : TyZ Try.prog 46 (.slice none 0 0) := ⟨fun w => by kernel_rfl⟩
instance : SlTy Try.prog 46 3 1 := ⟨by kernel_rfl, fun w => by kernel_rfl⟩
instance : ApTy Try.prog 46 3 1 8 := .of (by kernel_rfl) (by kernel_rfl) (by decide)
instance : TyS Try.prog 48 := ⟨fun w => by kernel_rfl, fun w => by kernel_rfl⟩
instance : TyZ Try.prog 48 (.nilFunc) := ⟨fun w => by kernel_rfl⟩
instance : TyS Try.prog 49 := ⟨fun w => by kernel_rfl, fun w => by kernel_rfl⟩
instance : TyZ Try.prog 49 (.nilFunc) := ⟨fun w => by kernel_rfl⟩
instance : TyS Try.prog 50 := ⟨fun w => by kernel_rfl, fun w => by kernel_rfl⟩
instance : TyZ Try.prog 50 (.nilFunc) := ⟨fun w => by kernel_rfl⟩
instance : TyS Try.prog 51 := ⟨fun w => by kernel_rfl, fun w => by kernel_rfl⟩
instance : TyZ Try.prog 51 (.nilFunc) := ⟨fun w => by kernel_rfl⟩
instance : TyS Try.prog 52 := ⟨fun w => by kernel_rfl, fun w => by kernel_rfl⟩
instance : TyZ Try.prog 52 (.nilFunc) := ⟨fun w => by kernel_rfl⟩
instance : TyS Try.prog 53 := ⟨fun w => by kernel_rfl, fun w => by kernel_rfl⟩
instance : TyZ Try.prog 53 (.nilFunc) := ⟨fun w => by kernel_rfl⟩
instance : TyS Try.prog 54 := ⟨fun w => by kernel_rfl, fun w => by kernel_rfl⟩
instance : TyZ Try.prog 54 (.nilFunc) := ⟨fun w => by kernel_rfl⟩
instance : TyS Try.prog 55 := ⟨fun w => by kernel_rfl, fun w => by kernel_rfl⟩
instance : TyZ Try.prog 55 (.nilFunc) := ⟨fun w => by kernel_rfl⟩
instance : TyS Try.prog 56 := ⟨fun w => by kernel_rfl, fun w => by kernel_rfl⟩
instance : TyZ Try.prog 56 (.nilFunc) := ⟨fun w => by kernel_rfl⟩
instance : TyS Try.prog 57 := ⟨fun w => by kernel_rfl, fun w => by kernel_rfl⟩
instance : TyZ Try.prog 57 (.nilFunc) := ⟨fun w => by kernel_rfl⟩
instance : TyS Try.prog 58 := ⟨fun w => by kernel_rfl, fun w => by kernel_rfl⟩
instance : TyZ Try.prog 58 (.nilFunc) := ⟨fun w => by kernel_rfl⟩
instance : TyS Try.prog 59 := ⟨fun w => by kernel_rfl, fun w => by kernel_rfl⟩
instance : TyZ Try.prog 59 (.pointer none) := ⟨fun w => by kernel_rfl⟩
instance : PtrTy Try.prog 59 := ⟨⟨150, by kernel_rfl⟩⟩
instance : TyS Try.prog 60 := ⟨fun w => by kernel_rfl, fun w => by kernel_rfl⟩
instance : TyZ Try.prog 60 (.int .i64 0) := ⟨fun w => by kernel_rfl⟩
instance : TyS Try.prog 62 := ⟨fun w => by kernel_rfl, fun w => by kernel_rfl⟩
instance : TyZ Try.prog 62 (.nilFunc) := ⟨fun w => by kernel_rfl⟩
instance : TyS Try.prog 63 := ⟨fun w => by kernel_rfl, fun w => by kernel_rfl⟩
instance : TyZ Try.prog 63 (.nilFunc) := ⟨fun w => by kernel_rfl⟩
instance : TyS Try.prog 65 := ⟨fun w => by kernel_rfl, fun w => by kernel_rfl⟩
instance : TyZ Try.prog 65 (.nilFunc) := ⟨fun w => by kernel_rfl⟩
instance : TyS Try.prog 66 := ⟨fun w => by kernel_rfl, fun w => by kernel_rfl⟩
instance : TyZ Try.prog 66 (.nilFunc) := ⟨fun w => by kernel_rfl⟩
instance : TyS Try.prog 67 := ⟨fun w => by kernel_rfl, fun w => by kernel_rfl⟩
instance : TyZ Try.prog 67 (.nilFunc) := ⟨fun w => by kernel_rfl⟩
instance : TyS Try.prog 68 := ⟨fun w => by kernel_rfl, fun w => by kernel_rfl⟩
instance : TyZ Try.prog 68 (.nilFunc) := ⟨fun w => by kernel_rfl⟩
instance : TyS Try.prog 69 := ⟨fun w => by kernel_rfl, fun w => by kernel_rfl⟩
instance : TyZ Try.prog 69 (.nilFunc) := ⟨fun w => by kernel_rfl⟩
instance : TyS Try.prog 70 := ⟨fun w => by kernel_rfl, fun w => by kernel_rfl⟩
instance : TyZ Try.prog 70 (.nilFunc) := ⟨fun w => by kernel_rfl⟩
instance : TyS Try.prog 71 := ⟨fun w => by kernel_rfl, fun w => by kernel_rfl⟩
instance : TyZ Try.prog 71 (.nilFunc) := ⟨fun w => by kernel_rfl⟩
instance : TyS Try.prog 72 := ⟨fun w => by kernel_rfl, fun w => by kernel_rfl⟩
instance : TyZ Try.prog 72 (.slice none 0 0) := ⟨fun w => by kernel_rfl⟩
instance : SlTy Try.prog 72 46 1 := ⟨by kernel_rfl, fun w => by kernel_rfl⟩
instance : ApTy Try.prog 72 46 1 24 := .of (by kernel_rfl) (by kernel_rfl) (by decide)
instance : TyS Try.prog 73 := ⟨fun w => by kernel_rfl, fun w => by kernel_rfl⟩
instance : TyZ Try.prog 73 (.slice none 0 0) := ⟨fun w => by kernel_rfl⟩
instance : SlTy Try.prog 73 5 1 := ⟨by kernel_rfl, fun w => by kernel_rfl⟩
instance : ApTy Try.prog 73 5 1 1 := .of (by kernel_rfl) (by kernel_rfl) (by decide)
instance : TyS Try.prog 74 := ⟨fun w => by kernel_rfl, fun w => by kernel_rfl⟩
instance : TyZ Try.prog 74 (.nilFunc) := ⟨fun w => by kernel_rfl⟩
instance : TyS Try.prog 75 := ⟨fun w => by kernel_rfl, fun w => by kernel_rfl⟩
instance : TyZ Try.prog 75 (.nilFunc) := ⟨fun w => by kernel_rfl⟩
instance : TyS Try.prog 77 := ⟨fun w => by kernel_rfl, fun w => by kernel_rfl⟩
instance : TyZ Try.prog 77 (.nilFunc) := ⟨fun w => by kernel_rfl⟩
instance : TyS Try.prog 78 := ⟨fun w => by kernel_rfl, fun w => by kernel_rfl⟩
instance : TyZ Try.prog 78 (.nilFunc) := ⟨fun w => by kernel_rfl⟩
instance : TyS Try.prog 79 := ⟨fun w => by kernel_rfl, fun w => by kernel_rfl⟩
instance : TyZ Try.prog 79 (.slice none 0 0) := ⟨fun w => by kernel_rfl⟩
instance : SlTy Try.prog 79 23 1 := ⟨by kernel_rfl, fun w => by kernel_rfl⟩
instance : ApTy Try.prog 79 23 1 24 := .of (by kernel_rfl) (by kernel_rfl) (by decide)
instance : TyS Try.prog 80 := ⟨fun w => by kernel_rfl, fun w => by kernel_rfl⟩
instance : TyZ Try.prog 80 (.pointer none) := ⟨fun w => by kernel_rfl⟩
instance : PtrTy Try.prog 80 := ⟨⟨82, by kernel_rfl⟩⟩
instance : TyA Try.prog 81 3 := ⟨fun w => by kernel_rfl, fun w => by kernel_rfl⟩
instance : FieldOff Try.prog 81 0 0 := ⟨fun b k w => by kernel_rfl⟩
instance : FieldOff Try.prog 81 1 1 := ⟨fun b k w => by kernel_rfl⟩
instance : FieldOff Try.prog 81 2 2 := ⟨fun b k w => by kernel_rfl⟩
instance : TyZ Try.prog 81 ((.agg #[.int .i64 0, .int .i64 0, .slice none 0 0])) := ⟨fun w => by kernel_rfl⟩
instance : TyA Try.prog 82 3 := ⟨fun w => by kernel_rfl, fun w => by kernel_rfl⟩
instance : FieldOff Try.prog 82 0 0 := ⟨fun b k w => by kernel_rfl⟩
instance : FieldOff Try.prog 82 1 1 := ⟨fun b k w => by kernel_rfl⟩
instance : FieldOff Try.prog 82 2 2 := ⟨fun b k w => by kernel_rfl⟩
instance : TyZ Try.prog 82 ((.agg #[.int .i64 0, .int .i64 0, .slice none 0 0])) := ⟨fun w => by kernel_rfl⟩
instance : TyS Try.prog 83 := ⟨fun w => by kernel_rfl, fun w => by kernel_rfl⟩
instance : TyZ Try.prog 83 (.nilFunc) := ⟨fun w => by kernel_rfl⟩
instance : TyS Try.prog 84 := ⟨fun w => by kernel_rfl, fun w => by kernel_rfl⟩
instance : TyZ Try.prog 84 (.nilFunc) := ⟨fun w => by kernel_rfl⟩
instance : TyS Try.prog 85 := ⟨fun w => by kernel_rfl, fun w => by kernel_rfl⟩
instance : TyZ Try.prog 85 (.nilFunc) := ⟨fun w => by kernel_rfl⟩
instance : TyS Try.prog 86 := ⟨fun w => by kernel_rfl, fun w => by kernel_rfl⟩
instance : TyZ Try.prog 86 (.nilFunc) := ⟨fun w => by kernel_rfl⟩
instance : TyS Try.prog 87 := ⟨fun w => by kernel_rfl, fun w => by kernel_rfl⟩
instance : TyZ Try.prog 87 (.nilFunc) := ⟨fun w => by kernel_rfl⟩
instance : TyS Try.prog 88 := ⟨fun w => by kernel_rfl, fun w => by kernel_rfl⟩
instance : TyZ Try.prog 88 (.nilFunc) := ⟨fun w => by kernel_rfl⟩
instance : TyS Try.prog 89 := ⟨fun w => by kernel_rfl, fun w => by kernel_rfl⟩
instance : TyZ Try.prog 89 (.slice none 0 0) := ⟨fun w => by kernel_rfl⟩
instance : SlTy Try.prog 89 95 3 := ⟨by kernel_rfl, fun w => by kernel_rfl⟩
instance : ApTy Try.prog 89 95 3 40 := .of (by kernel_rfl) (by kernel_rfl) (by decide)
instance : TyS Try.prog 90 := ⟨fun w => by kernel_rfl, fun w => by kernel_rfl⟩
instance : TyZ Try.prog 90 (.pointer none) := ⟨fun w => by kernel_rfl⟩
instance : PtrTy Try.prog 90 := ⟨⟨167, by kernel_rfl⟩⟩
instance : TyS Try.prog 91 := ⟨fun w => by kernel_rfl, fun w => by kernel_rfl⟩
instance : TyZ Try.prog 91 (.nilFunc) := ⟨fun w => by kernel_rfl⟩
instance : TyS Try.prog 92 := ⟨fun w => by kernel_rfl, fun w => by kernel_rfl⟩
instance : TyZ Try.prog 92 (.nilFunc) := ⟨fun w => by kernel_rfl⟩
instance : TyS Try.prog 93 := ⟨fun w => by kernel_rfl, fun w => by kernel_rfl⟩
instance : TyZ Try.prog 93 (.nilFunc) := ⟨fun w => by kernel_rfl⟩
instance : TyA Try.prog 94 3 := ⟨fun w => by kernel_rfl, fun w => by kernel_rfl⟩
instance : FieldOff Try.prog 94 0 0 := ⟨fun b k w => by kernel_rfl⟩
instance : FieldOff Try.prog 94 1 1 := ⟨fun b k w => by kernel_rfl⟩
instance : FieldOff Try.prog 94 2 2 := ⟨fun b k w => by kernel_rfl⟩
instance : TyZ Try.prog 94 ((.agg #[.int .i64 0, .int .i64 0, .slice none 0 0])) := ⟨fun w => by kernel_rfl⟩
instance : TyA Try.prog 95 3 := ⟨fun w => by kernel_rfl, fun w => by kernel_rfl⟩
instance : FieldOff Try.prog 95 0 0 := ⟨fun b k w => by kernel_rfl⟩
instance : FieldOff Try.prog 95 1 1 := ⟨fun b k w => by kernel_rfl⟩
instance : FieldOff Try.prog 95 2 2 := ⟨fun b k w => by kernel_rfl⟩
instance : TyZ Try.prog 95 ((.agg #[.int .i64 0, .int .i64 0, .slice none 0 0])) := ⟨fun w => by kernel_rfl⟩
instance : TyS Try.prog 96 := ⟨fun w => by kernel_rfl, fun w => by kernel_rfl⟩
instance : TyZ Try.prog 96 (.nilFunc) := ⟨fun w => by kernel_rfl⟩
instance : TyS Try.prog 97 := ⟨fun w => by kernel_rfl, fun w => by kernel_rfl⟩
instance : TyZ Try.prog 97 (.nilFunc) := ⟨fun w => by kernel_rfl⟩
instance : TyS Try.prog 98 := ⟨fun w => by kernel_rfl, fun w => by kernel_rfl⟩
instance : TyZ Try.prog 98 (.nilFunc) := ⟨fun w => by kernel_rfl⟩
instance : TyS Try.prog 99 := ⟨fun w => by kernel_rfl, fun w => by kernel_rfl⟩
instance : TyZ Try.prog 99 (.nilFunc) := ⟨fun w => by kernel_rfl⟩
instance : TyS Try.prog 100 := ⟨fun w => by kernel_rfl, fun w => by kernel_rfl⟩
instance : TyZ Try.prog 100 (.nilFunc) := ⟨fun w => by kernel_rfl⟩
instance : TyS Try.prog 101 := ⟨fun w => by kernel_rfl, fun w => by kernel_rfl⟩
instance : TyZ Try.prog 101 (.nilFunc) := ⟨fun w => by kernel_rfl⟩
instance : TyS Try.prog 102 := ⟨fun w => by kernel_rfl, fun w => by kernel_rfl⟩
instance : TyZ Try.prog 102 (.nilFunc) := ⟨fun w => by kernel_rfl⟩
instance : TyS Try.prog 103 := ⟨fun w => by kernel_rfl, fun w => by kernel_rfl⟩
instance : TyZ Try.prog 103 (.nilFunc) := ⟨fun w => by kernel_rfl⟩
instance : TyS Try.prog 104 := ⟨fun w => by kernel_rfl, fun w => by kernel_rfl⟩
instance : TyZ Try.prog 104 (.nilFunc) := ⟨fun w => by kernel_rfl⟩
instance : TyS Try.prog 105 := ⟨fun w => by kernel_rfl, fun w => by kernel_rfl⟩
instance : TyZ Try.prog 105 (.nilFunc) := ⟨fun w => by kernel_rfl⟩
instance : TyS Try.prog 106 := ⟨fun w => by kernel_rfl, fun w => by kernel_rfl⟩
instance : TyZ Try.prog 106 (.nilFunc) := ⟨fun w => by kernel_rfl⟩
instance : TyS Try.prog 107 := ⟨fun w => by kernel_rfl, fun w => by kernel_rfl⟩
instance : TyZ Try.prog 107 (.nilFunc) := ⟨fun w => by kernel_rfl⟩
instance : TyS Try.prog 108 := ⟨fun w => by kernel_rfl, fun w => by kernel_rfl⟩
instance : TyZ Try.prog 108 (.nilFunc) := ⟨fun w => by kernel_rfl⟩
instance : TyS Try.prog 109 := ⟨fun w => by kernel_rfl, fun w => by kernel_rfl⟩
instance : TyZ Try.prog 109 (.nilFunc) := ⟨fun w => by kernel_rfl⟩
instance : TyS Try.prog 110 := ⟨fun w => by kernel_rfl, fun w => by kernel_rfl⟩
instance : TyZ Try.prog 110 (.pointer none) := ⟨fun w => by kernel_rfl⟩
instance : PtrTy Try.prog 110 := ⟨⟨113, by kernel_rfl⟩⟩
instance : TyA Try.prog 112 9 := ⟨fun w => by kernel_rfl, fun w => by kernel_rfl⟩
instance : FieldOff Try.prog 112 0 0 := ⟨fun b k w => by kernel_rfl⟩
instance : TyZ Try.prog 112 ((.agg #[.slice none 0 0, .slice none 0 0, .slice none 0 0, .slice none 0 0, .slice none 0 0, .slice none 0 0, .slice none 0 0, .slice none 0 0, .slice none 0 0])) := ⟨fun w => by kernel_rfl⟩
instance : TyA Try.prog 113 9 := ⟨fun w => by kernel_rfl, fun w => by kernel_rfl⟩
instance : FieldOff Try.prog 113 0 0 := ⟨fun b k w => by kernel_rfl⟩
instance : TyZ Try.prog 113 ((.agg #[.slice none 0 0, .slice none 0 0, .slice none 0 0, .slice none 0 0, .slice none 0 0, .slice none 0 0, .slice none 0 0, .slice none 0 0, .slice none 0 0])) := ⟨fun w => by kernel_rfl⟩
instance : TyS Try.prog 115 := ⟨fun w => by kernel_rfl, fun w => by kernel_rfl⟩
instance : TyZ Try.prog 115 (.nilFunc) := ⟨fun w => by kernel_rfl⟩
instance : TyS Try.prog 116 := ⟨fun w => by kernel_rfl, fun w => by kernel_rfl⟩
instance : TyZ Try.prog 116 (.nilFunc) := ⟨fun w => by kernel_rfl⟩
instance : TyS Try.prog 117 := ⟨fun w => by kernel_rfl, fun w => by kernel_rfl⟩
instance : TyZ Try.prog 117 (.pointer none) := ⟨fun w => by kernel_rfl⟩
instance : PtrTy Try.prog 117 := ⟨⟨189, by kernel_rfl⟩⟩
instance : TyS Try.prog 118 := ⟨fun w => by kernel_rfl, fun w => by kernel_rfl⟩
instance : TyZ Try.prog 118 (.nilFunc) := ⟨fun w => by kernel_rfl⟩
instance : TyS Try.prog 119 := ⟨fun w => by kernel_rfl, fun w => by kernel_rfl⟩
instance : TyZ Try.prog 119 (.nilFunc) := ⟨fun w => by kernel_rfl⟩
instance : TyS Try.prog 120 := ⟨fun w => by kernel_rfl, fun w => by kernel_rfl⟩
instance : TyZ Try.prog 120 (.nilFunc) := ⟨fun w => by kernel_rfl⟩
instance : TyS Try.prog 121 := ⟨fun w => by kernel_rfl, fun w => by kernel_rfl⟩
instance : TyZ Try.prog 121 (.slice none 0 0) := ⟨fun w => by kernel_rfl⟩
instance : SlTy Try.prog 121 191 13 := ⟨by kernel_rfl, fun w => by kernel_rfl⟩
instance : ApTy Try.prog 121 191 13 120 := .of (by kernel_rfl) (by kernel_rfl) (by decide)
instance : TyS Try.prog 122 := ⟨fun w => by kernel_rfl, fun w => by kernel_rfl⟩
instance : TyZ Try.prog 122 (.nilFunc) := ⟨fun w => by kernel_rfl⟩
instance : TyS Try.prog 123 := ⟨fun w => by kernel_rfl, fun w => by kernel_rfl⟩
instance : TyZ Try.prog 123 (.nilFunc) := ⟨fun w => by kernel_rfl⟩
instance : TyS Try.prog 124 := ⟨fun w => by kernel_rfl, fun w => by kernel_rfl⟩
instance : TyZ Try.prog 124 (.pointer none) := ⟨fun w => by kernel_rfl⟩
instance : PtrTy Try.prog 124 := ⟨⟨127, by kernel_rfl⟩⟩
instance : TyS Try.prog 125 := ⟨fun w => by kernel_rfl, fun w => by kernel_rfl⟩
instance : TyZ Try.prog 125 (.pointer none) := ⟨fun w => by kernel_rfl⟩
instance : PtrTy Try.prog 125 := ⟨⟨356, by kernel_rfl⟩⟩
instance : TyA Try.prog 126 6 := ⟨fun w => by kernel_rfl, fun w => by kernel_rfl⟩
instance : FieldOff Try.prog 126 0 0 := ⟨fun b k w => by kernel_rfl⟩
instance : FieldOff Try.prog 126 1 1 := ⟨fun b k w => by kernel_rfl⟩
instance : FieldOff Try.prog 126 2 2 := ⟨fun b k w => by kernel_rfl⟩
instance : FieldOff Try.prog 126 3 3 := ⟨fun b k w => by kernel_rfl⟩
instance : FieldOff Try.prog 126 4 4 := ⟨fun b k w => by kernel_rfl⟩
instance : FieldOff Try.prog 126 5 5 := ⟨fun b k w => by kernel_rfl⟩
instance : TyZ Try.prog 126 ((.agg #[.pointer none, .slice none 0 0, .slice none 0 0, .slice none 0 0, .slice none 0 0, .int .i64 0])) := ⟨fun w => by kernel_rfl⟩
instance : TyA Try.prog 127 6 := ⟨fun w => by kernel_rfl, fun w => by kernel_rfl⟩
instance : FieldOff Try.prog 127 0 0 := ⟨fun b k w => by kernel_rfl⟩
instance : FieldOff Try.prog 127 1 1 := ⟨fun b k w => by kernel_rfl⟩
instance : FieldOff Try.prog 127 2 2 := ⟨fun b k w => by kernel_rfl⟩
instance : FieldOff Try.prog 127 3 3 := ⟨fun b k w => by kernel_rfl⟩
instance : FieldOff Try.prog 127 4 4 := ⟨fun b k w => by kernel_rfl⟩
instance : FieldOff Try.prog 127 5 5 := ⟨fun b k w => by kernel_rfl⟩
instance : TyZ Try.prog 127 ((.agg #[.pointer none, .slice none 0 0, .slice none 0 0, .slice none 0 0, .slice none 0 0, .int .i64 0])) := ⟨fun w => by kernel_rfl⟩
instance : TyS Try.prog 128 := ⟨fun w => by kernel_rfl, fun w => by kernel_rfl⟩
instance : TyZ Try.prog 128 (.nilFunc) := ⟨fun w => by kernel_rfl⟩
instance : TyS Try.prog 129 := ⟨fun w => by kernel_rfl, fun w => by kernel_rfl⟩
instance : TyZ Try.prog 129 (.nilFunc) := ⟨fun w => by kernel_rfl⟩
instance : TyS Try.prog 130 := ⟨fun w => by kernel_rfl, fun w => by kernel_rfl⟩
instance : TyZ Try.prog 130 (.nilFunc) := ⟨fun w => by kernel_rfl⟩
instance : TyS Try.prog 131 := ⟨fun w => by kernel_rfl, fun w => by kernel_rfl⟩
instance : TyZ Try.prog 131 (.nilFunc) := ⟨fun w => by kernel_rfl⟩
instance : TyS Try.prog 132 := ⟨fun w => by kernel_rfl, fun w => by kernel_rfl⟩
instance : TyZ Try.prog 132 (.nilFunc) := ⟨fun w => by kernel_rfl⟩
instance : TyS Try.prog 133 := ⟨fun w => by kernel_rfl, fun w => by kernel_rfl⟩
instance : TyZ Try.prog 133 (.nilFunc) := ⟨fun w => by kernel_rfl⟩
instance : TyS Try.prog 134 := ⟨fun w => by kernel_rfl, fun w => by kernel_rfl⟩
instance : TyZ Try.prog 134 (.pointer none) := ⟨fun w => by kernel_rfl⟩
instance : PtrTy Try.prog 134 := ⟨⟨209, by kernel_rfl⟩⟩
instance : TyS Try.prog 135 := ⟨fun w => by kernel_rfl, fun w => by kernel_rfl⟩
instance : TyZ Try.prog 135 (.nilFunc) := ⟨fun w => by kernel_rfl⟩
instance : TyS Try.prog 137 := ⟨fun w => by kernel_rfl, fun w => by kernel_rfl⟩
instance : TyZ Try.prog 137 (.nilFunc) := ⟨fun w => by kernel_rfl⟩
instance : TyS Try.prog 138 := ⟨fun w => by kernel_rfl, fun w => by kernel_rfl⟩
instance : TyZ Try.prog 138 (.nilFunc) := ⟨fun w => by kernel_rfl⟩
instance : TyS Try.prog 139 := ⟨fun w => by kernel_rfl, fun w => by kernel_rfl⟩
instance : TyZ Try.prog 139 (.nilFunc) := ⟨fun w => by kernel_rfl⟩
instance : TyS Try.prog 140 := ⟨fun w => by kernel_rfl, fun w => by kernel_rfl⟩
instance : TyZ Try.prog 140 (.nilFunc) := ⟨fun w => by kernel_rfl⟩
instance : TyS Try.prog 141 := ⟨fun w => by kernel_rfl, fun w => by kernel_rfl⟩
instance : TyZ Try.prog 141 (.nilFunc) := ⟨fun w => by kernel_rfl⟩
instance : TyS Try.prog 142 := ⟨fun w => by kernel_rfl, fun w => by kernel_rfl⟩
instance : TyZ Try.prog 142 (.nilFunc) := ⟨fun w => by kernel_rfl⟩
instance : TyS Try.prog 143 := ⟨fun w => by kernel_rfl, fun w => by kernel_rfl⟩
instance : TyZ Try.prog 143 (.nilFunc) := ⟨fun w => by kernel_rfl⟩
instance : TyS Try.prog 144 := ⟨fun w => by kernel_rfl, fun w => by kernel_rfl⟩
instance : TyZ Try.prog 144 (.nilFunc) := ⟨fun w => by kernel_rfl⟩
instance : TyS Try.prog 145 := ⟨fun w => by kernel_rfl, fun w => by kernel_rfl⟩
instance : TyZ Try.prog 145 (.pointer none) := ⟨fun w => by kernel_rfl⟩
instance : PtrTy Try.prog 145 := ⟨⟨219, by kernel_rfl⟩⟩
instance : TyS Try.prog 146 := ⟨fun w => by kernel_rfl, fun w => by kernel_rfl⟩
instance : TyZ Try.prog 146 (.nilFunc) := ⟨fun w => by kernel_rfl⟩
instance : TyS Try.prog 147 := ⟨fun w => by kernel_rfl, fun w => by kernel_rfl⟩
instance : TyZ Try.prog 147 (.pointer none) := ⟨fun w => by kernel_rfl⟩
instance : PtrTy Try.prog 147 := ⟨⟨225, by kernel_rfl⟩⟩
instance : TyS Try.prog 148 := ⟨fun w => by kernel_rfl, fun w => by kernel_rfl⟩
instance : TyZ Try.prog 148 (.pointer none) := ⟨fun w => by kernel_rfl⟩
instance : PtrTy Try.prog 148 := ⟨⟨281, by kernel_rfl⟩⟩
instance : TyA Try.prog 149 6 := ⟨fun w => by kernel_rfl, fun w => by kernel_rfl⟩
instance : FieldOff Try.prog 149 0 0 := ⟨fun b k w => by kernel_rfl⟩
instance : FieldOff Try.prog 149 1 1 := ⟨fun b k w => by kernel_rfl⟩
instance : FieldOff Try.prog 149 2 2 := ⟨fun b k w => by kernel_rfl⟩
instance : FieldOff Try.prog 149 3 3 := ⟨fun b k w => by kernel_rfl⟩
instance : FieldOff Try.prog 149 4 4 := ⟨fun b k w => by kernel_rfl⟩
instance : FieldOff Try.prog 149 5 5 := ⟨fun b k w => by kernel_rfl⟩
instance : TyZ Try.prog 149 ((.agg #[.int .i64 0, .int .i64 0, .pointer none, .pointer none, .pointer none, .pointer none])) := ⟨fun w => by kernel_rfl⟩
instance : TyA Try.prog 150 6 := ⟨fun w => by kernel_rfl, fun w => by kernel_rfl⟩
instance : FieldOff Try.prog 150 0 0 := ⟨fun b k w => by kernel_rfl⟩
instance : FieldOff Try.prog 150 1 1 := ⟨fun b k w => by kernel_rfl⟩
instance : FieldOff Try.prog 150 2 2 := ⟨fun b k w => by kernel_rfl⟩
instance : FieldOff Try.prog 150 3 3 := ⟨fun b k w => by kernel_rfl⟩
instance : FieldOff Try.prog 150 4 4 := ⟨fun b k w => by kernel_rfl⟩
instance : FieldOff Try.prog 150 5 5 := ⟨fun b k w => by kernel_rfl⟩
instance : TyZ Try.prog 150 ((.agg #[.int .i64 0, .int .i64 0, .pointer none, .pointer none, .pointer none, .pointer none])) := ⟨fun w => by kernel_rfl⟩
instance : TyS Try.prog 151 := ⟨fun w => by kernel_rfl, fun w => by kernel_rfl⟩
instance : TyZ Try.prog 151 (.nilFunc) := ⟨fun w => by kernel_rfl⟩
instance : TyS Try.prog 152 := ⟨fun w => by kernel_rfl, fun w => by kernel_rfl⟩
instance : TyZ Try.prog 152 (.nilFunc) := ⟨fun w => by kernel_rfl⟩
instance : TyS Try.prog 153 := ⟨fun w => by kernel_rfl, fun w => by kernel_rfl⟩
instance : TyZ Try.prog 153 (.nilFunc) := ⟨fun w => by kernel_rfl⟩
instance : TyS Try.prog 154 := ⟨fun w => by kernel_rfl, fun w => by kernel_rfl⟩
instance : TyZ Try.prog 154 (.int .i64 0) := ⟨fun w => by kernel_rfl⟩
instance : TyS Try.prog 155 := ⟨fun w => by kernel_rfl, fun w => by kernel_rfl⟩
instance : TyZ Try.prog 155 (.nilFunc) := ⟨fun w => by kernel_rfl⟩
instance : TyS Try.prog 156 := ⟨fun w => by kernel_rfl, fun w => by kernel_rfl⟩
instance : TyZ Try.prog 156 (.nilFunc) := ⟨fun w => by kernel_rfl⟩
instance : TyS Try.prog 157 := ⟨fun w => by kernel_rfl, fun w => by kernel_rfl⟩
instance : TyZ Try.prog 157 (.nilFunc) := ⟨fun w => by kernel_rfl⟩
instance : TyS Try.prog 158 := ⟨fun w => by kernel_rfl, fun w => by kernel_rfl⟩
instance : TyZ Try.prog 158 (.nilFunc) := ⟨fun w => by kernel_rfl⟩
instance : TyS Try.prog 159 := ⟨fun w => by kernel_rfl, fun w => by kernel_rfl⟩
instance : TyZ Try.prog 159 (.nilFunc) := ⟨fun w => by kernel_rfl⟩
instance : TyS Try.prog 160 := ⟨fun w => by kernel_rfl, fun w => by kernel_rfl⟩
instance : TyZ Try.prog 160 (.nilFunc) := ⟨fun w => by kernel_rfl⟩
instance : TyS Try.prog 161 := ⟨fun w => by kernel_rfl, fun w => by kernel_rfl⟩
instance : TyZ Try.prog 161 (.nilFunc) := ⟨fun w => by kernel_rfl⟩
instance : TyS Try.prog 162 := ⟨fun w => by kernel_rfl, fun w => by kernel_rfl⟩
instance : TyZ Try.prog 162 (.pointer none) := ⟨fun w => by kernel_rfl⟩
instance : PtrTy Try.prog 162 := ⟨⟨241, by kernel_rfl⟩⟩
instance : TyS Try.prog 163 := ⟨fun w => by kernel_rfl, fun w => by kernel_rfl⟩
instance : TyZ Try.prog 163 (.nilFunc) := ⟨fun w => by kernel_rfl⟩
instance : TyS Try.prog 164 := ⟨fun w => by kernel_rfl, fun w => by kernel_rfl⟩
instance : TyZ Try.prog 164 (.int .i64 0) := ⟨fun w => by kernel_rfl⟩
instance : TyS Try.prog 165 := ⟨fun w => by kernel_rfl, fun w => by kernel_rfl⟩
instance : TyZ Try.prog 165 (.pointer none) := ⟨fun w => by kernel_rfl⟩
instance : PtrTy Try.prog 165 := ⟨⟨247, by kernel_rfl⟩⟩
instance : TyA Try.prog 166 1 := ⟨fun w => by kernel_rfl, fun w => by kernel_rfl⟩
instance : FieldOff Try.prog 166 0 0 := ⟨fun b k w => by kernel_rfl⟩
instance : TyZ Try.prog 166 ((.agg #[.pointer none])) := ⟨fun w => by kernel_rfl⟩
instance : TyA Try.prog 167 1 := ⟨fun w => by kernel_rfl, fun w => by kernel_rfl⟩
instance : FieldOff Try.prog 167 0 0 := ⟨fun b k w => by kernel_rfl⟩
instance : TyZ Try.prog 167 ((.agg #[.pointer none])) := ⟨fun w => by kernel_rfl⟩
instance : TyS Try.prog 169 := ⟨fun w => by kernel_rfl, fun w => by kernel_rfl⟩
instance : TyZ Try.prog 169 (.nilFunc) := ⟨fun w => by kernel_rfl⟩
instance : TyS Try.prog 170 := ⟨fun w => by kernel_rfl, fun w => by kernel_rfl⟩
instance : TyZ Try.prog 170 (.nilFunc) := ⟨fun w => by kernel_rfl⟩
instance : TyS Try.prog 171 := ⟨fun w => by kernel_rfl, fun w => by kernel_rfl⟩
instance : TyZ Try.prog 171 (.nilFunc) := ⟨fun w => by kernel_rfl⟩
instance : TyS Try.prog 172 := ⟨fun w => by kernel_rfl, fun w => by kernel_rfl⟩
instance : TyZ Try.prog 172 (.nilFunc) := ⟨fun w => by kernel_rfl⟩
instance : TyS Try.prog 173 := ⟨fun w => by kernel_rfl, fun w => by kernel_rfl⟩
instance : TyZ Try.prog 173 (.nilFunc) := ⟨fun w => by kernel_rfl⟩
instance : TyS Try.prog 174 := ⟨fun w => by kernel_rfl, fun w => by kernel_rfl⟩
instance : TyZ Try.prog 174 (.nilFunc) := ⟨fun w => by kernel_rfl⟩
instance : TyS Try.prog 175 := ⟨fun w => by kernel_rfl, fun w => by kernel_rfl⟩
instance : TyZ Try.prog 175 (.nilFunc) := ⟨fun w => by kernel_rfl⟩
instance : TyS Try.prog 176 := ⟨fun w => by kernel_rfl, fun w => by kernel_rfl⟩
instance : TyZ Try.prog 176 (.nilFunc) := ⟨fun w => by kernel_rfl⟩
instance : TyS Try.prog 177 := ⟨fun w => by kernel_rfl, fun w => by kernel_rfl⟩
instance : TyZ Try.prog 177 (.nilFunc) := ⟨fun w => by kernel_rfl⟩
instance : TyS Try.prog 178 := ⟨fun w => by kernel_rfl, fun w => by kernel_rfl⟩
instance : TyZ Try.prog 178 (.nilFunc) := ⟨fun w => by kernel_rfl⟩
instance : TyS Try.prog 179 := ⟨fun w => by kernel_rfl, fun w => by kernel_rfl⟩
instance : TyZ Try.prog 179 (.nilFunc) := ⟨fun w => by kernel_rfl⟩
instance : TyS Try.prog 180 := ⟨fun w => by kernel_rfl, fun w => by kernel_rfl⟩
instance : TyZ Try.prog 180 (.nilFunc) := ⟨fun w => by kernel_rfl⟩
instance : TyS Try.prog 181 := ⟨fun w => by kernel_rfl, fun w => by kernel_rfl⟩
instance : TyZ Try.prog 181 (.nilFunc) := ⟨fun w => by kernel_rfl⟩
instance : TyS Try.prog 182 := ⟨fun w => by kernel_rfl, fun w => by kernel_rfl⟩
instance : TyZ Try.prog 182 (.nilFunc) := ⟨fun w => by kernel_rfl⟩
instance : TyS Try.prog 183 := ⟨fun w => by kernel_rfl, fun w => by kernel_rfl⟩
instance : TyZ Try.prog 183 (.nilFunc) := ⟨fun w => by kernel_rfl⟩
instance : TyS Try.prog 184 := ⟨fun w => by kernel_rfl, fun w => by kernel_rfl⟩
instance : TyZ Try.prog 184 (.nilFunc) := ⟨fun w => by kernel_rfl⟩
instance : TyS Try.prog 185 := ⟨fun w => by kernel_rfl, fun w => by kernel_rfl⟩
instance : TyZ Try.prog 185 (.nilFunc) := ⟨fun w => by kernel_rfl⟩
instance : TyS Try.prog 186 := ⟨fun w => by kernel_rfl, fun w => by kernel_rfl⟩
instance : TyZ Try.prog 186 (.nilFunc) := ⟨fun w => by kernel_rfl⟩
instance : TyS Try.prog 187 := ⟨fun w => by kernel_rfl, fun w => by kernel_rfl⟩
instance : TyZ Try.prog 187 (.nilFunc) := ⟨fun w => by kernel_rfl⟩
instance : TyA Try.prog 188 1 := ⟨fun w => by kernel_rfl, fun w => by kernel_rfl⟩
instance : FieldOff Try.prog 188 0 0 := ⟨fun b k w => by kernel_rfl⟩
instance : TyZ Try.prog 188 ((.agg #[.pointer none])) := ⟨fun w => by kernel_rfl⟩
instance : TyA Try.prog 189 1 := ⟨fun w => by kernel_rfl, fun w => by kernel_rfl⟩
instance : FieldOff Try.prog 189 0 0 := ⟨fun b k w => by kernel_rfl⟩
instance : TyZ Try.prog 189 ((.agg #[.pointer none])) := ⟨fun w => by kernel_rfl⟩
instance : TyA Try.prog 190 13 := ⟨fun w => by kernel_rfl, fun w => by kernel_rfl⟩
instance : FieldOff Try.prog 190 0 0 := ⟨fun b k w => by kernel_rfl⟩
instance : FieldOff Try.prog 190 1 1 := ⟨fun b k w => by kernel_rfl⟩
instance : TyZ Try.prog 190 ((.agg #[.int .i64 0, .int .i64 0, .string ByteArray.empty, .int .i64 0, .int .i64 0, .string ByteArray.empty, .int .i64 0, .int .i64 0, .string ByteArray.empty, .int .i64 0, .bool false, .bool false, .int .i64 0])) := ⟨fun w => by kernel_rfl⟩
instance : TyA Try.prog 191 13 := ⟨fun w => by kernel_rfl, fun w => by kernel_rfl⟩
instance : FieldOff Try.prog 191 0 0 := ⟨fun b k w => by kernel_rfl⟩
instance : FieldOff Try.prog 191 1 1 := ⟨fun b k w => by kernel_rfl⟩
instance : TyZ Try.prog 191 ((.agg #[.int .i64 0, .int .i64 0, .string ByteArray.empty, .int .i64 0, .int .i64 0, .string ByteArray.empty, .int .i64 0, .int .i64 0, .string ByteArray.empty, .int .i64 0, .bool false, .bool false, .int .i64 0])) := ⟨fun w => by kernel_rfl⟩
instance : TyS Try.prog 192 := ⟨fun w => by kernel_rfl, fun w => by kernel_rfl⟩
instance : TyZ Try.prog 192 (.nilFunc) := ⟨fun w => by kernel_rfl⟩
instance : TyS Try.prog 193 := ⟨fun w => by kernel_rfl, fun w => by kernel_rfl⟩
instance : TyZ Try.prog 193 (.nilFunc) := ⟨fun w => by kernel_rfl⟩
instance : TyS Try.prog 194 := ⟨fun w => by kernel_rfl, fun w => by kernel_rfl⟩
instance : TyZ Try.prog 194 (.nilFunc) := ⟨fun w => by kernel_rfl⟩
instance : TyS Try.prog 195 := ⟨fun w => by kernel_rfl, fun w => by kernel_rfl⟩
instance : TyZ Try.prog 195 (.pointer none) := ⟨fun w => by kernel_rfl⟩
instance : PtrTy Try.prog 195 := ⟨⟨266, by kernel_rfl⟩⟩
instance : TyS Try.prog 196 := ⟨fun w => by kernel_rfl, fun w => by kernel_rfl⟩
instance : TyZ Try.prog 196 (.nilFunc) := ⟨fun w => by kernel_rfl⟩
instance : TyS Try.prog 197 := ⟨fun w => by kernel_rfl, fun w => by kernel_rfl⟩
instance : TyZ Try.prog 197 (.pointer none) := ⟨fun w => by kernel_rfl⟩
instance : PtrTy Try.prog 197 := ⟨⟨260, by kernel_rfl⟩⟩
instance : TyS Try.prog 198 := ⟨fun w => by kernel_rfl, fun w => by kernel_rfl⟩
instance : TyZ Try.prog 198 (.nilFunc) := ⟨fun w => by kernel_rfl⟩
instance : TyS Try.prog 200 := ⟨fun w => by kernel_rfl, fun w => by kernel_rfl⟩
instance : TyZ Try.prog 200 (.nilFunc) := ⟨fun w => by kernel_rfl⟩
instance : TyS Try.prog 201 := ⟨fun w => by kernel_rfl, fun w => by kernel_rfl⟩
instance : TyZ Try.prog 201 (.nilFunc) := ⟨fun w => by kernel_rfl⟩
instance : TyS Try.prog 202 := ⟨fun w => by kernel_rfl, fun w => by kernel_rfl⟩
instance : TyZ Try.prog 202 (.nilFunc) := ⟨fun w => by kernel_rfl⟩
instance : TyS Try.prog 203 := ⟨fun w => by kernel_rfl, fun w => by kernel_rfl⟩
instance : TyZ Try.prog 203 (.nilFunc) := ⟨fun w => by kernel_rfl⟩
instance : TyA Try.prog 204 4 := ⟨fun w => by kernel_rfl, fun w => by kernel_rfl⟩
instance : FieldOff Try.prog 204 0 0 := ⟨fun b k w => by kernel_rfl⟩
instance : FieldOff Try.prog 204 1 3 := ⟨fun b k w => by kernel_rfl⟩
instance : TyZ Try.prog 204 ((.agg #[.int .i64 0, .string ByteArray.empty, .int .i64 0, .int .i64 0])) := ⟨fun w => by kernel_rfl⟩
instance : TyA Try.prog 205 4 := ⟨fun w => by kernel_rfl, fun w => by kernel_rfl⟩
instance : FieldOff Try.prog 205 0 0 := ⟨fun b k w => by kernel_rfl⟩
instance : FieldOff Try.prog 205 1 3 := ⟨fun b k w => by kernel_rfl⟩
instance : TyZ Try.prog 205 ((.agg #[.int .i64 0, .string ByteArray.empty, .int .i64 0, .int .i64 0])) := ⟨fun w => by kernel_rfl⟩
instance : TyS Try.prog 207 := ⟨fun w => by kernel_rfl, fun w => by kernel_rfl⟩
instance : TyZ Try.prog 207 (.pointer none) := ⟨fun w => by kernel_rfl⟩
instance : PtrTy Try.prog 207 := ⟨⟨273, by kernel_rfl⟩⟩
instance : TyA Try.prog 208 1 := ⟨fun w => by kernel_rfl, fun w => by kernel_rfl⟩
instance : FieldOff Try.prog 208 0 0 := ⟨fun b k w => by kernel_rfl⟩
instance : TyZ Try.prog 208 ((.agg #[.pointer none])) := ⟨fun w => by kernel_rfl⟩
instance : TyA Try.prog 209 1 := ⟨fun w => by kernel_rfl, fun w => by kernel_rfl⟩
instance : FieldOff Try.prog 209 0 0 := ⟨fun b k w => by kernel_rfl⟩
instance : TyZ Try.prog 209 ((.agg #[.pointer none])) := ⟨fun w => by kernel_rfl⟩
instance : TyS Try.prog 210 := ⟨fun w => by kernel_rfl, fun w => by kernel_rfl⟩
instance : TyZ Try.prog 210 (.nilFunc) := ⟨fun w => by kernel_rfl⟩
instance : TyS Try.prog 211 := ⟨fun w => by kernel_rfl, fun w => by kernel_rfl⟩
instance : TyZ Try.prog 211 (.nilFunc) := ⟨fun w => by kernel_rfl⟩
instance : TyS Try.prog 212 := ⟨fun w => by kernel_rfl, fun w => by kernel_rfl⟩
instance : TyZ Try.prog 212 (.nilFunc) := ⟨fun w => by kernel_rfl⟩
instance : TyS Try.prog 213 := ⟨fun w => by kernel_rfl, fun w => by kernel_rfl⟩
instance : TyZ Try.prog 213 (.nilFunc) := ⟨fun w => by kernel_rfl⟩
instance : TyS Try.prog 214 := ⟨fun w => by kernel_rfl, fun w => by kernel_rfl⟩
instance : TyZ Try.prog 214 (.nilFunc) := ⟨fun w => by kernel_rfl⟩
instance : TyS Try.prog 215 := ⟨fun w => by kernel_rfl, fun w => by kernel_rfl⟩
instance : TyZ Try.prog 215 (.nilFunc) := ⟨fun w => by kernel_rfl⟩
instance : TyS Try.prog 216 := ⟨fun w => by kernel_rfl, fun w => by kernel_rfl⟩
instance : TyZ Try.prog 216 (.nilFunc) := ⟨fun w => by kernel_rfl⟩
instance : TyS Try.prog 217 := ⟨fun w => by kernel_rfl, fun w => by kernel_rfl⟩
instance : TyZ Try.prog 217 (.nilFunc) := ⟨fun w => by kernel_rfl⟩
instance : TyA Try.prog 218 2 := ⟨fun w => by kernel_rfl, fun w => by kernel_rfl⟩
instance : FieldOff Try.prog 218 0 0 := ⟨fun b k w => by kernel_rfl⟩
instance : FieldOff Try.prog 218 1 1 := ⟨fun b k w => by kernel_rfl⟩
instance : TyZ Try.prog 218 ((.agg #[.slice none 0 0, .bool false])) := ⟨fun w => by kernel_rfl⟩
instance : TyA Try.prog 219 2 := ⟨fun w => by kernel_rfl, fun w => by kernel_rfl⟩
instance : FieldOff Try.prog 219 0 0 := ⟨fun b k w => by kernel_rfl⟩
instance : FieldOff Try.prog 219 1 1 := ⟨fun b k w => by kernel_rfl⟩
instance : TyZ Try.prog 219 ((.agg #[.slice none 0 0, .bool false])) := ⟨fun w => by kernel_rfl⟩
instance : TyS Try.prog 220 := ⟨fun w => by kernel_rfl, fun w => by kernel_rfl⟩
instance : TyZ Try.prog 220 (.nilFunc) := ⟨fun w => by kernel_rfl⟩
instance : TyS Try.prog 221 := ⟨fun w => by kernel_rfl, fun w => by kernel_rfl⟩
instance : TyZ Try.prog 221 (.nilFunc) := ⟨fun w => by kernel_rfl⟩
instance : TyS Try.prog 222 := ⟨fun w => by kernel_rfl, fun w => by kernel_rfl⟩
instance : TyZ Try.prog 222 (.nilFunc) := ⟨fun w => by kernel_rfl⟩
instance : TyS Try.prog 223 := ⟨fun w => by kernel_rfl, fun w => by kernel_rfl⟩
instance : TyZ Try.prog 223 (.pointer none) := ⟨fun w => by kernel_rfl⟩
instance : PtrTy Try.prog 223 := ⟨⟨289, by kernel_rfl⟩⟩
instance : TyA Try.prog 224 1 := ⟨fun w => by kernel_rfl, fun w => by kernel_rfl⟩
instance : FieldOff Try.prog 224 0 0 := ⟨fun b k w => by kernel_rfl⟩
instance : TyZ Try.prog 224 ((.agg #[.pointer none])) := ⟨fun w => by kernel_rfl⟩
instance : TyA Try.prog 225 1 := ⟨fun w => by kernel_rfl, fun w => by kernel_rfl⟩
instance : FieldOff Try.prog 225 0 0 := ⟨fun b k w => by kernel_rfl⟩
instance : TyZ Try.prog 225 ((.agg #[.pointer none])) := ⟨fun w => by kernel_rfl⟩
instance : TyS Try.prog 226 := ⟨fun w => by kernel_rfl, fun w => by kernel_rfl⟩
instance : TyZ Try.prog 226 (.nilFunc) := ⟨fun w => by kernel_rfl⟩
instance : TyA Try.prog 227 13 := ⟨fun w => by kernel_rfl, fun w => by kernel_rfl⟩
instance : FieldOff Try.prog 227 0 0 := ⟨fun b k w => by kernel_rfl⟩
instance : FieldOff Try.prog 227 1 1 := ⟨fun b k w => by kernel_rfl⟩
instance : TyZ Try.prog 227 ((.agg #[.int .i64 0, .int .i64 0, .string ByteArray.empty, .int .i64 0, .int .i64 0, .string ByteArray.empty, .int .i64 0, .int .i64 0, .string ByteArray.empty, .int .i64 0, .bool false, .bool false, .int .i64 0])) := ⟨fun w => by kernel_rfl⟩
instance : TyA Try.prog 228 13 := ⟨fun w => by kernel_rfl, fun w => by kernel_rfl⟩
instance : FieldOff Try.prog 228 0 0 := ⟨fun b k w => by kernel_rfl⟩
instance : FieldOff Try.prog 228 1 1 := ⟨fun b k w => by kernel_rfl⟩
instance : TyZ Try.prog 228 ((.agg #[.int .i64 0, .int .i64 0, .string ByteArray.empty, .int .i64 0, .int .i64 0, .string ByteArray.empty, .int .i64 0, .int .i64 0, .string ByteArray.empty, .int .i64 0, .bool false, .bool false, .int .i64 0])) := ⟨fun w => by kernel_rfl⟩
instance : TyS Try.prog 229 := ⟨fun w => by kernel_rfl, fun w => by kernel_rfl⟩
instance : TyZ Try.prog 229 (.nilFunc) := ⟨fun w => by kernel_rfl⟩
instance : TyS Try.prog 230 := ⟨fun w => by kernel_rfl, fun w => by kernel_rfl⟩
instance : TyZ Try.prog 230 (.nilFunc) := ⟨fun w => by kernel_rfl⟩
instance : TyS Try.prog 232 := ⟨fun w => by kernel_rfl, fun w => by kernel_rfl⟩
instance : TyZ Try.prog 232 (.nilFunc) := ⟨fun w => by kernel_rfl⟩
instance : TyS Try.prog 233 := ⟨fun w => by kernel_rfl, fun w => by kernel_rfl⟩
instance : TyZ Try.prog 233 (.nilFunc) := ⟨fun w => by kernel_rfl⟩
instance : TyS Try.prog 235 := ⟨fun w => by kernel_rfl, fun w => by kernel_rfl⟩
instance : TyZ Try.prog 235 (.nilFunc) := ⟨fun w => by kernel_rfl⟩
instance : TyS Try.prog 236 := ⟨fun w => by kernel_rfl, fun w => by kernel_rfl⟩
instance : TyZ Try.prog 236 (.pointer none) := ⟨fun w => by kernel_rfl⟩
instance : PtrTy Try.prog 236 := ⟨⟨295, by kernel_rfl⟩⟩
instance : TyS Try.prog 237 := ⟨fun w => by kernel_rfl, fun w => by kernel_rfl⟩
instance : TyZ Try.prog 237 (.nilFunc) := ⟨fun w => by kernel_rfl⟩
instance : TyA Try.prog 238 2 := ⟨fun w => by kernel_rfl, fun w => by kernel_rfl⟩
instance : FieldOff Try.prog 238 0 0 := ⟨fun b k w => by kernel_rfl⟩
instance : FieldOff Try.prog 238 1 1 := ⟨fun b k w => by kernel_rfl⟩
instance : TyZ Try.prog 238 ((.agg #[.int .i64 0, .pointer none])) := ⟨fun w => by kernel_rfl⟩
instance : TyA Try.prog 239 2 := ⟨fun w => by kernel_rfl, fun w => by kernel_rfl⟩
instance : FieldOff Try.prog 239 0 0 := ⟨fun b k w => by kernel_rfl⟩
instance : FieldOff Try.prog 239 1 1 := ⟨fun b k w => by kernel_rfl⟩
instance : TyZ Try.prog 239 ((.agg #[.int .i64 0, .pointer none])) := ⟨fun w => by kernel_rfl⟩
instance : TyA Try.prog 240 1 := ⟨fun w => by kernel_rfl, fun w => by kernel_rfl⟩
instance : FieldOff Try.prog 240 0 0 := ⟨fun b k w => by kernel_rfl⟩
instance : TyZ Try.prog 240 ((.agg #[.pointer none])) := ⟨fun w => by kernel_rfl⟩
instance : TyA Try.prog 241 1 := ⟨fun w => by kernel_rfl, fun w => by kernel_rfl⟩
instance : FieldOff Try.prog 241 0 0 := ⟨fun b k w => by kernel_rfl⟩
instance : TyZ Try.prog 241 ((.agg #[.pointer none])) := ⟨fun w => by kernel_rfl⟩
instance : TyS Try.prog 243 := ⟨fun w => by kernel_rfl, fun w => by kernel_rfl⟩
instance : TyZ Try.prog 243 (.nilFunc) := ⟨fun w => by kernel_rfl⟩
instance : TyS Try.prog 244 := ⟨fun w => by kernel_rfl, fun w => by kernel_rfl⟩
instance : TyZ Try.prog 244 (.nilFunc) := ⟨fun w => by kernel_rfl⟩
instance : TyS Try.prog 245 := ⟨fun w => by kernel_rfl, fun w => by kernel_rfl⟩
instance : TyZ Try.prog 245 (.slice none 0 0) := ⟨fun w => by kernel_rfl⟩
instance : SlTy Try.prog 245 164 1 := ⟨by kernel_rfl, fun w => by kernel_rfl⟩
instance : ApTy Try.prog 245 164 1 8 := .of (by kernel_rfl) (by kernel_rfl) (by decide)
instance : TyA Try.prog 246 2 := ⟨fun w => by kernel_rfl, fun w => by kernel_rfl⟩
instance : FieldOff Try.prog 246 0 0 := ⟨fun b k w => by kernel_rfl⟩
instance : FieldOff Try.prog 246 1 1 := ⟨fun b k w => by kernel_rfl⟩
instance : TyZ Try.prog 246 ((.agg #[.slice none 0 0, .bool false])) := ⟨fun w => by kernel_rfl⟩
instance : TyA Try.prog 247 2 := ⟨fun w => by kernel_rfl, fun w => by kernel_rfl⟩
instance : FieldOff Try.prog 247 0 0 := ⟨fun b k w => by kernel_rfl⟩
instance : FieldOff Try.prog 247 1 1 := ⟨fun b k w => by kernel_rfl⟩
instance : TyZ Try.prog 247 ((.agg #[.slice none 0 0, .bool false])) := ⟨fun w => by kernel_rfl⟩
instance : TyS Try.prog 248 := ⟨fun w => by kernel_rfl, fun w => by kernel_rfl⟩
instance : TyZ Try.prog 248 (.nilFunc) := ⟨fun w => by kernel_rfl⟩
instance : TyS Try.prog 249 := ⟨fun w => by kernel_rfl, fun w => by kernel_rfl⟩
instance : TyZ Try.prog 249 (.nilFunc) := ⟨fun w => by kernel_rfl⟩
instance : TyS Try.prog 250 := ⟨fun w => by kernel_rfl, fun w => by kernel_rfl⟩
instance : TyZ Try.prog 250 (.nilFunc) := ⟨fun w => by kernel_rfl⟩
instance : TyS Try.prog 251 := ⟨fun w => by kernel_rfl, fun w => by kernel_rfl⟩
instance : TyZ Try.prog 251 (.nilFunc) := ⟨fun w => by kernel_rfl⟩
instance : TyS Try.prog 252 := ⟨fun w => by kernel_rfl, fun w => by kernel_rfl⟩
instance : TyZ Try.prog 252 (.nilFunc) := ⟨fun w => by kernel_rfl⟩
instance : TyS Try.prog 253 := ⟨fun w => by kernel_rfl, fun w => by kernel_rfl⟩
instance : TyZ Try.prog 253 (.nilFunc) := ⟨fun w => by kernel_rfl⟩
instance : TyS Try.prog 254 := ⟨fun w => by kernel_rfl, fun w => by kernel_rfl⟩
instance : TyZ Try.prog 254 (.nilFunc) := ⟨fun w => by kernel_rfl⟩
instance : TyS Try.prog 255 := ⟨fun w => by kernel_rfl, fun w => by kernel_rfl⟩
instance : TyZ Try.prog 255 (.nilFunc) := ⟨fun w => by kernel_rfl⟩
instance : TyS Try.prog 256 := ⟨fun w => by kernel_rfl, fun w => by kernel_rfl⟩
instance : TyZ Try.prog 256 (.nilFunc) := ⟨fun w => by kernel_rfl⟩
instance : TyS Try.prog 257 := ⟨fun w => by kernel_rfl, fun w => by kernel_rfl⟩
instance : TyZ Try.prog 257 (.nilFunc) := ⟨fun w => by kernel_rfl⟩
instance : TyS Try.prog 258 := ⟨fun w => by kernel_rfl, fun w => by kernel_rfl⟩
instance : TyZ Try.prog 258 (.nilFunc) := ⟨fun w => by kernel_rfl⟩
instance : TyA Try.prog 259 2 := ⟨fun w => by kernel_rfl, fun w => by kernel_rfl⟩
instance : FieldOff Try.prog 259 0 0 := ⟨fun b k w => by kernel_rfl⟩
instance : FieldOff Try.prog 259 1 1 := ⟨fun b k w => by kernel_rfl⟩
instance : TyZ Try.prog 259 ((.agg #[.slice none 0 0, .bool false])) := ⟨fun w => by kernel_rfl⟩
instance : TyA Try.prog 260 2 := ⟨fun w => by kernel_rfl, fun w => by kernel_rfl⟩
instance : FieldOff Try.prog 260 0 0 := ⟨fun b k w => by kernel_rfl⟩
instance : FieldOff Try.prog 260 1 1 := ⟨fun b k w => by kernel_rfl⟩
instance : TyZ Try.prog 260 ((.agg #[.slice none 0 0, .bool false])) := ⟨fun w => by kernel_rfl⟩
instance : TyA Try.prog 261 4 := ⟨fun w => by kernel_rfl, fun w => by kernel_rfl⟩
instance : FieldOff Try.prog 261 0 0 := ⟨fun b k w => by kernel_rfl⟩
instance : FieldOff Try.prog 261 1 3 := ⟨fun b k w => by kernel_rfl⟩
instance : TyZ Try.prog 261 ((.agg #[.int .i64 0, .string ByteArray.empty, .int .i64 0, .pointer none])) := ⟨fun w => by kernel_rfl⟩
instance : TyA Try.prog 262 4 := ⟨fun w => by kernel_rfl, fun w => by kernel_rfl⟩
instance : FieldOff Try.prog 262 0 0 := ⟨fun b k w => by kernel_rfl⟩
instance : FieldOff Try.prog 262 1 3 := ⟨fun b k w => by kernel_rfl⟩
instance : TyZ Try.prog 262 ((.agg #[.int .i64 0, .string ByteArray.empty, .int .i64 0, .pointer none])) := ⟨fun w => by kernel_rfl⟩
instance : TyS Try.prog 264 := ⟨fun w => by kernel_rfl, fun w => by kernel_rfl⟩
instance : TyZ Try.prog 264 (.pointer none) := ⟨fun w => by kernel_rfl⟩
instance : PtrTy Try.prog 264 := ⟨⟨304, by kernel_rfl⟩⟩
instance : TyA Try.prog 265 1 := ⟨fun w => by kernel_rfl, fun w => by kernel_rfl⟩
instance : FieldOff Try.prog 265 0 0 := ⟨fun b k w => by kernel_rfl⟩
instance : TyZ Try.prog 265 ((.agg #[.pointer none])) := ⟨fun w => by kernel_rfl⟩
instance : TyA Try.prog 266 1 := ⟨fun w => by kernel_rfl, fun w => by kernel_rfl⟩
instance : FieldOff Try.prog 266 0 0 := ⟨fun b k w => by kernel_rfl⟩
instance : TyZ Try.prog 266 ((.agg #[.pointer none])) := ⟨fun w => by kernel_rfl⟩
instance : TyS Try.prog 267 := ⟨fun w => by kernel_rfl, fun w => by kernel_rfl⟩
instance : TyZ Try.prog 267 (.nilFunc) := ⟨fun w => by kernel_rfl⟩
instance : TyS Try.prog 268 := ⟨fun w => by kernel_rfl, fun w => by kernel_rfl⟩
instance : TyZ Try.prog 268 (.nilFunc) := ⟨fun w => by kernel_rfl⟩
instance : TyS Try.prog 269 := ⟨fun w => by kernel_rfl, fun w => by kernel_rfl⟩
instance : TyZ Try.prog 269 (.nilFunc) := ⟨fun w => by kernel_rfl⟩
instance : TyS Try.prog 270 := ⟨fun w => by kernel_rfl, fun w => by kernel_rfl⟩
instance : TyZ Try.prog 270 (.nilFunc) := ⟨fun w => by kernel_rfl⟩
instance : TyS Try.prog 271 := ⟨fun w => by kernel_rfl, fun w => by kernel_rfl⟩
instance : TyZ Try.prog 271 (.slice none 0 0) := ⟨fun w => by kernel_rfl⟩
instance : SlTy Try.prog 271 205 4 := ⟨by kernel_rfl, fun w => by kernel_rfl⟩
instance : ApTy Try.prog 271 205 4 40 := .of (by kernel_rfl) (by kernel_rfl) (by decide)
instance : TyA Try.prog 272 2 := ⟨fun w => by kernel_rfl, fun w => by kernel_rfl⟩
instance : FieldOff Try.prog 272 0 0 := ⟨fun b k w => by kernel_rfl⟩
instance : FieldOff Try.prog 272 1 1 := ⟨fun b k w => by kernel_rfl⟩
instance : TyZ Try.prog 272 ((.agg #[.slice none 0 0, .bool false])) := ⟨fun w => by kernel_rfl⟩
instance : TyA Try.prog 273 2 := ⟨fun w => by kernel_rfl, fun w => by kernel_rfl⟩
instance : FieldOff Try.prog 273 0 0 := ⟨fun b k w => by kernel_rfl⟩
instance : FieldOff Try.prog 273 1 1 := ⟨fun b k w => by kernel_rfl⟩
instance : TyZ Try.prog 273 ((.agg #[.slice none 0 0, .bool false])) := ⟨fun w => by kernel_rfl⟩
instance : TyS Try.prog 274 := ⟨fun w => by kernel_rfl, fun w => by kernel_rfl⟩
instance : TyZ Try.prog 274 (.nilFunc) := ⟨fun w => by kernel_rfl⟩
instance : TyS Try.prog 275 := ⟨fun w => by kernel_rfl, fun w => by kernel_rfl⟩
instance : TyZ Try.prog 275 (.nilFunc) := ⟨fun w => by kernel_rfl⟩
instance : TyS Try.prog 276 := ⟨fun w => by kernel_rfl, fun w => by kernel_rfl⟩
instance : TyZ Try.prog 276 (.pointer none) := ⟨fun w => by kernel_rfl⟩
instance : PtrTy Try.prog 276 := ⟨⟨309, by kernel_rfl⟩⟩
instance : TyS Try.prog 277 := ⟨fun w => by kernel_rfl, fun w => by kernel_rfl⟩
instance : TyZ Try.prog 277 (.nilFunc) := ⟨fun w => by kernel_rfl⟩
instance : TyA Try.prog 278 4 := ⟨fun w => by kernel_rfl, fun w => by kernel_rfl⟩
instance : FieldOff Try.prog 278 0 0 := ⟨fun b k w => by kernel_rfl⟩
instance : FieldOff Try.prog 278 1 3 := ⟨fun b k w => by kernel_rfl⟩
instance : TyZ Try.prog 278 ((.agg #[.int .i64 0, .string ByteArray.empty, .int .i64 0, .pointer none])) := ⟨fun w => by kernel_rfl⟩
instance : TyA Try.prog 279 4 := ⟨fun w => by kernel_rfl, fun w => by kernel_rfl⟩
instance : FieldOff Try.prog 279 0 0 := ⟨fun b k w => by kernel_rfl⟩
instance : FieldOff Try.prog 279 1 3 := ⟨fun b k w => by kernel_rfl⟩
instance : TyZ Try.prog 279 ((.agg #[.int .i64 0, .string ByteArray.empty, .int .i64 0, .pointer none])) := ⟨fun w => by kernel_rfl⟩
instance : TyA Try.prog 280 1 := ⟨fun w => by kernel_rfl, fun w => by kernel_rfl⟩
instance : FieldOff Try.prog 280 0 0 := ⟨fun b k w => by kernel_rfl⟩
instance : TyZ Try.prog 280 ((.agg #[.pointer none])) := ⟨fun w => by kernel_rfl⟩
instance : TyA Try.prog 281 1 := ⟨fun w => by kernel_rfl, fun w => by kernel_rfl⟩
instance : FieldOff Try.prog 281 0 0 := ⟨fun b k w => by kernel_rfl⟩
instance : TyZ Try.prog 281 ((.agg #[.pointer none])) := ⟨fun w => by kernel_rfl⟩
instance : TyS Try.prog 282 := ⟨fun w => by kernel_rfl, fun w => by kernel_rfl⟩
instance : TyZ Try.prog 282 (.nilFunc) := ⟨fun w => by kernel_rfl⟩
instance : TyS Try.prog 283 := ⟨fun w => by kernel_rfl, fun w => by kernel_rfl⟩
instance : TyZ Try.prog 283 (.nilFunc) := ⟨fun w => by kernel_rfl⟩
instance : TyS Try.prog 284 := ⟨fun w => by kernel_rfl, fun w => by kernel_rfl⟩
instance : TyZ Try.prog 284 (.nilFunc) := ⟨fun w => by kernel_rfl⟩
instance : TyS Try.prog 285 := ⟨fun w => by kernel_rfl, fun w => by kernel_rfl⟩
instance : TyZ Try.prog 285 (.nilFunc) := ⟨fun w => by kernel_rfl⟩
instance : TyS Try.prog 286 := ⟨fun w => by kernel_rfl, fun w => by kernel_rfl⟩
instance : TyZ Try.prog 286 (.nilFunc) := ⟨fun w => by kernel_rfl⟩
instance : TyS Try.prog 287 := ⟨fun w => by kernel_rfl, fun w => by kernel_rfl⟩
instance : TyZ Try.prog 287 (.slice none 0 0) := ⟨fun w => by kernel_rfl⟩
instance : SlTy Try.prog 287 228 13 := ⟨by kernel_rfl, fun w => by kernel_rfl⟩
instance : ApTy Try.prog 287 228 13 120 := .of (by kernel_rfl) (by kernel_rfl) (by decide)
instance : TyA Try.prog 288 2 := ⟨fun w => by kernel_rfl, fun w => by kernel_rfl⟩
instance : FieldOff Try.prog 288 0 0 := ⟨fun b k w => by kernel_rfl⟩
instance : FieldOff Try.prog 288 1 1 := ⟨fun b k w => by kernel_rfl⟩
instance : TyZ Try.prog 288 ((.agg #[.slice none 0 0, .bool false])) := ⟨fun w => by kernel_rfl⟩
instance : TyA Try.prog 289 2 := ⟨fun w => by kernel_rfl, fun w => by kernel_rfl⟩
instance : FieldOff Try.prog 289 0 0 := ⟨fun b k w => by kernel_rfl⟩
instance : FieldOff Try.prog 289 1 1 := ⟨fun b k w => by kernel_rfl⟩
instance : TyZ Try.prog 289 ((.agg #[.slice none 0 0, .bool false])) := ⟨fun w => by kernel_rfl⟩
instance : TyS Try.prog 291 := ⟨fun w => by kernel_rfl, fun w => by kernel_rfl⟩
instance : TyZ Try.prog 291 (.nilFunc) := ⟨fun w => by kernel_rfl⟩
instance : TyS Try.prog 292 := ⟨fun w => by kernel_rfl, fun w => by kernel_rfl⟩
instance : TyZ Try.prog 292 (.nilFunc) := ⟨fun w => by kernel_rfl⟩
instance : TyS Try.prog 293 := ⟨fun w => by kernel_rfl, fun w => by kernel_rfl⟩
instance : TyZ Try.prog 293 (.slice none 0 0) := ⟨fun w => by kernel_rfl⟩
instance : SlTy Try.prog 293 239 2 := ⟨by kernel_rfl, fun w => by kernel_rfl⟩
instance : ApTy Try.prog 293 239 2 16 := .of (by kernel_rfl) (by kernel_rfl) (by decide)
instance : TyA Try.prog 294 2 := ⟨fun w => by kernel_rfl, fun w => by kernel_rfl⟩
instance : FieldOff Try.prog 294 0 0 := ⟨fun b k w => by kernel_rfl⟩
instance : FieldOff Try.prog 294 1 1 := ⟨fun b k w => by kernel_rfl⟩
instance : TyZ Try.prog 294 ((.agg #[.slice none 0 0, .bool false])) := ⟨fun w => by kernel_rfl⟩
instance : TyA Try.prog 295 2 := ⟨fun w => by kernel_rfl, fun w => by kernel_rfl⟩
instance : FieldOff Try.prog 295 0 0 := ⟨fun b k w => by kernel_rfl⟩
instance : FieldOff Try.prog 295 1 1 := ⟨fun b k w => by kernel_rfl⟩
instance : TyZ Try.prog 295 ((.agg #[.slice none 0 0, .bool false])) := ⟨fun w => by kernel_rfl⟩
instance : TyS Try.prog 296 := ⟨fun w => by kernel_rfl, fun w => by kernel_rfl⟩
instance : TyZ Try.prog 296 (.nilFunc) := ⟨fun w => by kernel_rfl⟩
instance : TyS Try.prog 297 := ⟨fun w => by kernel_rfl, fun w => by kernel_rfl⟩
instance : TyZ Try.prog 297 (.nilFunc) := ⟨fun w => by kernel_rfl⟩
instance : TyS Try.prog 298 := ⟨fun w => by kernel_rfl, fun w => by kernel_rfl⟩
instance : TyZ Try.prog 298 (.nilFunc) := ⟨fun w => by kernel_rfl⟩
instance : TyS Try.prog 299 := ⟨fun w => by kernel_rfl, fun w => by kernel_rfl⟩
instance : TyZ Try.prog 299 (.nilFunc) := ⟨fun w => by kernel_rfl⟩
instance : TyS Try.prog 300 := ⟨fun w => by kernel_rfl, fun w => by kernel_rfl⟩
instance : TyZ Try.prog 300 (.nilFunc) := ⟨fun w => by kernel_rfl⟩
instance : TyS Try.prog 301 := ⟨fun w => by kernel_rfl, fun w => by kernel_rfl⟩
instance : TyZ Try.prog 301 (.nilFunc) := ⟨fun w => by kernel_rfl⟩
instance : TyS Try.prog 302 := ⟨fun w => by kernel_rfl, fun w => by kernel_rfl⟩
instance : TyZ Try.prog 302 (.slice none 0 0) := ⟨fun w => by kernel_rfl⟩
instance : SlTy Try.prog 302 262 4 := ⟨by kernel_rfl, fun w => by kernel_rfl⟩
instance : ApTy Try.prog 302 262 4 40 := .of (by kernel_rfl) (by kernel_rfl) (by decide)
instance : TyA Try.prog 303 2 := ⟨fun w => by kernel_rfl, fun w => by kernel_rfl⟩
instance : FieldOff Try.prog 303 0 0 := ⟨fun b k w => by kernel_rfl⟩
instance : FieldOff Try.prog 303 1 1 := ⟨fun b k w => by kernel_rfl⟩
instance : TyZ Try.prog 303 ((.agg #[.slice none 0 0, .bool false])) := ⟨fun w => by kernel_rfl⟩
instance : TyA Try.prog 304 2 := ⟨fun w => by kernel_rfl, fun w => by kernel_rfl⟩
instance : FieldOff Try.prog 304 0 0 := ⟨fun b k w => by kernel_rfl⟩
instance : FieldOff Try.prog 304 1 1 := ⟨fun b k w => by kernel_rfl⟩
instance : TyZ Try.prog 304 ((.agg #[.slice none 0 0, .bool false])) := ⟨fun w => by kernel_rfl⟩
instance : TyS Try.prog 305 := ⟨fun w => by kernel_rfl, fun w => by kernel_rfl⟩
instance : TyZ Try.prog 305 (.nilFunc) := ⟨fun w => by kernel_rfl⟩
instance : TyS Try.prog 306 := ⟨fun w => by kernel_rfl, fun w => by kernel_rfl⟩
instance : TyZ Try.prog 306 (.nilFunc) := ⟨fun w => by kernel_rfl⟩
instance : TyS Try.prog 307 := ⟨fun w => by kernel_rfl, fun w => by kernel_rfl⟩
instance : TyZ Try.prog 307 (.slice none 0 0) := ⟨fun w => by kernel_rfl⟩
instance : SlTy Try.prog 307 279 4 := ⟨by kernel_rfl, fun w => by kernel_rfl⟩
instance : ApTy Try.prog 307 279 4 40 := .of (by kernel_rfl) (by kernel_rfl) (by decide)
instance : TyA Try.prog 308 2 := ⟨fun w => by kernel_rfl, fun w => by kernel_rfl⟩
instance : FieldOff Try.prog 308 0 0 := ⟨fun b k w => by kernel_rfl⟩
instance : FieldOff Try.prog 308 1 1 := ⟨fun b k w => by kernel_rfl⟩
instance : TyZ Try.prog 308 ((.agg #[.slice none 0 0, .bool false])) := ⟨fun w => by kernel_rfl⟩
instance : TyA Try.prog 309 2 := ⟨fun w => by kernel_rfl, fun w => by kernel_rfl⟩
instance : FieldOff Try.prog 309 0 0 := ⟨fun b k w => by kernel_rfl⟩
instance : FieldOff Try.prog 309 1 1 := ⟨fun b k w => by kernel_rfl⟩
instance : TyZ Try.prog 309 ((.agg #[.slice none 0 0, .bool false])) := ⟨fun w => by kernel_rfl⟩
instance : TyS Try.prog 310 := ⟨fun w => by kernel_rfl, fun w => by kernel_rfl⟩
instance : TyZ Try.prog 310 (.nilFunc) := ⟨fun w => by kernel_rfl⟩
instance : TyS Try.prog 311 := ⟨fun w => by kernel_rfl, fun w => by kernel_rfl⟩
instance : TyZ Try.prog 311 (.nilFunc) := ⟨fun w => by kernel_rfl⟩
instance : TyS Try.prog 312 := ⟨fun w => by kernel_rfl, fun w => by kernel_rfl⟩
instance : TyZ Try.prog 312 (.nilFunc) := ⟨fun w => by kernel_rfl⟩
instance : TyS Try.prog 313 := ⟨fun w => by kernel_rfl, fun w => by kernel_rfl⟩
instance : TyZ Try.prog 313 (.nilFunc) := ⟨fun w => by kernel_rfl⟩
instance : TyS Try.prog 314 := ⟨fun w => by kernel_rfl, fun w => by kernel_rfl⟩
instance : TyZ Try.prog 314 (.nilFunc) := ⟨fun w => by kernel_rfl⟩
instance : TyS Try.prog 315 := ⟨fun w => by kernel_rfl, fun w => by kernel_rfl⟩
instance : TyZ Try.prog 315 (.nilFunc) := ⟨fun w => by kernel_rfl⟩
instance : TyS Try.prog 316 := ⟨fun w => by kernel_rfl, fun w => by kernel_rfl⟩
instance : TyZ Try.prog 316 (.nilFunc) := ⟨fun w => by kernel_rfl⟩
instance : TyS Try.prog 322 := ⟨fun w => by kernel_rfl, fun w => by kernel_rfl⟩
instance : TyZ Try.prog 322 (.int .u32 0) := ⟨fun w => by kernel_rfl⟩
instance : TyS Try.prog 323 := ⟨fun w => by kernel_rfl, fun w => by kernel_rfl⟩
instance : TyZ Try.prog 323 (.int .u8 0) := ⟨fun w => by kernel_rfl⟩
instance : TyS Try.prog 324 := ⟨fun w => by kernel_rfl, fun w => by kernel_rfl⟩
instance : TyZ Try.prog 324 (.int .u8 0) := ⟨fun w => by kernel_rfl⟩
instance : TyS Try.prog 325 := ⟨fun w => by kernel_rfl, fun w => by kernel_rfl⟩
instance : TyZ Try.prog 325 (.nilFunc) := ⟨fun w => by kernel_rfl⟩
instance : TyS Try.prog 326 := ⟨fun w => by kernel_rfl, fun w => by kernel_rfl⟩
instance : TyZ Try.prog 326 (.pointer none) := ⟨fun w => by kernel_rfl⟩
instance : PtrTy Try.prog 326 := ⟨⟨5, by kernel_rfl⟩⟩
instance : TyS Try.prog 327 := ⟨fun w => by kernel_rfl, fun w => by kernel_rfl⟩
instance : TyZ Try.prog 327 (.int .i32 0) := ⟨fun w => by kernel_rfl⟩
instance : TyS Try.prog 328 := ⟨fun w => by kernel_rfl, fun w => by kernel_rfl⟩
instance : TyZ Try.prog 328 (.int .i32 0) := ⟨fun w => by kernel_rfl⟩
instance : TyS Try.prog 331 := ⟨fun w => by kernel_rfl, fun w => by kernel_rfl⟩
instance : TyZ Try.prog 331 (.nilFunc) := ⟨fun w => by kernel_rfl⟩
instance : TyS Try.prog 332 := ⟨fun w => by kernel_rfl, fun w => by kernel_rfl⟩
instance : TyZ Try.prog 332 (.nilFunc) := ⟨fun w => by kernel_rfl⟩
instance : TyS Try.prog 333 := ⟨fun w => by kernel_rfl, fun w => by kernel_rfl⟩
instance : TyZ Try.prog 333 (.nilFunc) := ⟨fun w => by kernel_rfl⟩
instance : TyA Try.prog 334 9 := ⟨fun w => by kernel_rfl, fun w => by kernel_rfl⟩
instance : FieldOff Try.prog 334 0 0 := ⟨fun b k w => by kernel_rfl⟩
instance : FieldOff Try.prog 334 1 1 := ⟨fun b k w => by kernel_rfl⟩
instance : FieldOff Try.prog 334 2 2 := ⟨fun b k w => by kernel_rfl⟩
instance : FieldOff Try.prog 334 3 3 := ⟨fun b k w => by kernel_rfl⟩
instance : FieldOff Try.prog 334 4 4 := ⟨fun b k w => by kernel_rfl⟩
instance : FieldOff Try.prog 334 5 5 := ⟨fun b k w => by kernel_rfl⟩
instance : FieldOff Try.prog 334 6 6 := ⟨fun b k w => by kernel_rfl⟩
instance : FieldOff Try.prog 334 7 7 := ⟨fun b k w => by kernel_rfl⟩
instance : FieldOff Try.prog 334 8 8 := ⟨fun b k w => by kernel_rfl⟩
instance : TyZ Try.prog 334 ((.agg #[.int .i64 0, .int .i64 0, .int .i64 0, .int .i64 0, .int .i64 0, .int .i64 0, .int .i64 0, .int .i64 0, .int .i64 0])) := ⟨fun w => by kernel_rfl⟩
instance : TyA Try.prog 335 9 := ⟨fun w => by kernel_rfl, fun w => by kernel_rfl⟩
instance : FieldOff Try.prog 335 0 0 := ⟨fun b k w => by kernel_rfl⟩
instance : FieldOff Try.prog 335 1 1 := ⟨fun b k w => by kernel_rfl⟩
instance : FieldOff Try.prog 335 2 2 := ⟨fun b k w => by kernel_rfl⟩
instance : FieldOff Try.prog 335 3 3 := ⟨fun b k w => by kernel_rfl⟩
instance : FieldOff Try.prog 335 4 4 := ⟨fun b k w => by kernel_rfl⟩
instance : FieldOff Try.prog 335 5 5 := ⟨fun b k w => by kernel_rfl⟩
instance : FieldOff Try.prog 335 6 6 := ⟨fun b k w => by kernel_rfl⟩
instance : FieldOff Try.prog 335 7 7 := ⟨fun b k w => by kernel_rfl⟩
instance : FieldOff Try.prog 335 8 8 := ⟨fun b k w => by kernel_rfl⟩
instance : TyZ Try.prog 335 ((.agg #[.int .i64 0, .int .i64 0, .int .i64 0, .int .i64 0, .int .i64 0, .int .i64 0, .int .i64 0, .int .i64 0, .int .i64 0])) := ⟨fun w => by kernel_rfl⟩
instance : TyA Try.prog 336 2 := ⟨fun w => by kernel_rfl, fun w => by kernel_rfl⟩
instance : FieldOff Try.prog 336 0 0 := ⟨fun b k w => by kernel_rfl⟩
instance : FieldOff Try.prog 336 1 1 := ⟨fun b k w => by kernel_rfl⟩
instance : TyZ Try.prog 336 ((.agg #[.int .i64 0, .slice none 0 0])) := ⟨fun w => by kernel_rfl⟩
instance : TyA Try.prog 337 2 := ⟨fun w => by kernel_rfl, fun w => by kernel_rfl⟩
instance : FieldOff Try.prog 337 0 0 := ⟨fun b k w => by kernel_rfl⟩
instance : FieldOff Try.prog 337 1 1 := ⟨fun b k w => by kernel_rfl⟩
instance : TyZ Try.prog 337 ((.agg #[.int .i64 0, .slice none 0 0])) := ⟨fun w => by kernel_rfl⟩
instance : TyS Try.prog 338 := ⟨fun w => by kernel_rfl, fun w => by kernel_rfl⟩
instance : TyZ Try.prog 338 (.slice none 0 0) := ⟨fun w => by kernel_rfl⟩
instance : SlTy Try.prog 338 378 9 := ⟨by kernel_rfl, fun w => by kernel_rfl⟩
instance : ApTy Try.prog 338 378 9 112 := .of (by kernel_rfl) (by kernel_rfl) (by decide)
instance : TyA Try.prog 339 11 := ⟨fun w => by kernel_rfl, fun w => by kernel_rfl⟩
instance : FieldOff Try.prog 339 0 0 := ⟨fun b k w => by kernel_rfl⟩
instance : FieldOff Try.prog 339 1 1 := ⟨fun b k w => by kernel_rfl⟩
instance : FieldOff Try.prog 339 2 2 := ⟨fun b k w => by kernel_rfl⟩
instance : FieldOff Try.prog 339 3 5 := ⟨fun b k w => by kernel_rfl⟩
instance : FieldOff Try.prog 339 4 8 := ⟨fun b k w => by kernel_rfl⟩
instance : TyZ Try.prog 339 ((.agg #[.int .i64 0, .slice none 0 0, .int .i64 0, .string ByteArray.empty, .int .i64 0, .int .i64 0, .string ByteArray.empty, .int .i64 0, .int .i64 0, .string ByteArray.empty, .int .i64 0])) := ⟨fun w => by kernel_rfl⟩
instance : TyA Try.prog 340 11 := ⟨fun w => by kernel_rfl, fun w => by kernel_rfl⟩
instance : FieldOff Try.prog 340 0 0 := ⟨fun b k w => by kernel_rfl⟩
instance : FieldOff Try.prog 340 1 1 := ⟨fun b k w => by kernel_rfl⟩
instance : FieldOff Try.prog 340 2 2 := ⟨fun b k w => by kernel_rfl⟩
instance : FieldOff Try.prog 340 3 5 := ⟨fun b k w => by kernel_rfl⟩
instance : FieldOff Try.prog 340 4 8 := ⟨fun b k w => by kernel_rfl⟩
instance : TyZ Try.prog 340 ((.agg #[.int .i64 0, .slice none 0 0, .int .i64 0, .string ByteArray.empty, .int .i64 0, .int .i64 0, .string ByteArray.empty, .int .i64 0, .int .i64 0, .string ByteArray.empty, .int .i64 0])) := ⟨fun w => by kernel_rfl⟩
instance : TyS Try.prog 341 := ⟨fun w => by kernel_rfl, fun w => by kernel_rfl⟩
instance : TyZ Try.prog 341 (.slice none 0 0) := ⟨fun w => by kernel_rfl⟩
instance : SlTy Try.prog 341 382 3 := ⟨by kernel_rfl, fun w => by kernel_rfl⟩
instance : ApTy Try.prog 341 382 3 64 := .of (by kernel_rfl) (by kernel_rfl) (by decide)
instance : TyS Try.prog 342 := ⟨fun w => by kernel_rfl, fun w => by kernel_rfl⟩
instance : TyZ Try.prog 342 (.slice none 0 0) := ⟨fun w => by kernel_rfl⟩
instance : SlTy Try.prog 342 383 1 := ⟨by kernel_rfl, fun w => by kernel_rfl⟩
instance : ApTy Try.prog 342 383 1 24 := .of (by kernel_rfl) (by kernel_rfl) (by decide)
instance : TyA Try.prog 343 6 := ⟨fun w => by kernel_rfl, fun w => by kernel_rfl⟩
instance : FieldOff Try.prog 343 0 0 := ⟨fun b k w => by kernel_rfl⟩
instance : FieldOff Try.prog 343 1 1 := ⟨fun b k w => by kernel_rfl⟩
instance : FieldOff Try.prog 343 2 2 := ⟨fun b k w => by kernel_rfl⟩
instance : FieldOff Try.prog 343 3 3 := ⟨fun b k w => by kernel_rfl⟩
instance : FieldOff Try.prog 343 4 4 := ⟨fun b k w => by kernel_rfl⟩
instance : FieldOff Try.prog 343 5 5 := ⟨fun b k w => by kernel_rfl⟩
instance : TyZ Try.prog 343 ((.agg #[.int .i64 0, .int .i64 0, .slice none 0 0, .slice none 0 0, .slice none 0 0, .slice none 0 0])) := ⟨fun w => by kernel_rfl⟩
instance : TyA Try.prog 344 6 := ⟨fun w => by kernel_rfl, fun w => by kernel_rfl⟩
instance : FieldOff Try.prog 344 0 0 := ⟨fun b k w => by kernel_rfl⟩
instance : FieldOff Try.prog 344 1 1 := ⟨fun b k w => by kernel_rfl⟩
instance : FieldOff Try.prog 344 2 2 := ⟨fun b k w => by kernel_rfl⟩
instance : FieldOff Try.prog 344 3 3 := ⟨fun b k w => by kernel_rfl⟩
instance : FieldOff Try.prog 344 4 4 := ⟨fun b k w => by kernel_rfl⟩
instance : FieldOff Try.prog 344 5 5 := ⟨fun b k w => by kernel_rfl⟩
instance : TyZ Try.prog 344 ((.agg #[.int .i64 0, .int .i64 0, .slice none 0 0, .slice none 0 0, .slice none 0 0, .slice none 0 0])) := ⟨fun w => by kernel_rfl⟩
instance : TyS Try.prog 345 := ⟨fun w => by kernel_rfl, fun w => by kernel_rfl⟩
instance : TyZ Try.prog 345 (.slice none 0 0) := ⟨fun w => by kernel_rfl⟩
instance : SlTy Try.prog 345 385 5 := ⟨by kernel_rfl, fun w => by kernel_rfl⟩
instance : ApTy Try.prog 345 385 5 64 := .of (by kernel_rfl) (by kernel_rfl) (by decide)
instance : TyA Try.prog 346 3 := ⟨fun w => by kernel_rfl, fun w => by kernel_rfl⟩
instance : FieldOff Try.prog 346 0 0 := ⟨fun b k w => by kernel_rfl⟩
instance : FieldOff Try.prog 346 1 1 := ⟨fun b k w => by kernel_rfl⟩
instance : FieldOff Try.prog 346 2 2 := ⟨fun b k w => by kernel_rfl⟩
instance : TyZ Try.prog 346 ((.agg #[.int .i64 0, .int .i64 0, .slice none 0 0])) := ⟨fun w => by kernel_rfl⟩
instance : TyA Try.prog 347 3 := ⟨fun w => by kernel_rfl, fun w => by kernel_rfl⟩
instance : FieldOff Try.prog 347 0 0 := ⟨fun b k w => by kernel_rfl⟩
instance : FieldOff Try.prog 347 1 1 := ⟨fun b k w => by kernel_rfl⟩
instance : FieldOff Try.prog 347 2 2 := ⟨fun b k w => by kernel_rfl⟩
instance : TyZ Try.prog 347 ((.agg #[.int .i64 0, .int .i64 0, .slice none 0 0])) := ⟨fun w => by kernel_rfl⟩
instance : TyS Try.prog 348 := ⟨fun w => by kernel_rfl, fun w => by kernel_rfl⟩
instance : TyZ Try.prog 348 (.slice none 0 0) := ⟨fun w => by kernel_rfl⟩
instance : SlTy Try.prog 348 387 16 := ⟨by kernel_rfl, fun w => by kernel_rfl⟩
instance : ApTy Try.prog 348 387 16 160 := .of (by kernel_rfl) (by kernel_rfl) (by decide)
instance : TyA Try.prog 349 2 := ⟨fun w => by kernel_rfl, fun w => by kernel_rfl⟩
instance : FieldOff Try.prog 349 0 0 := ⟨fun b k w => by kernel_rfl⟩
instance : FieldOff Try.prog 349 1 1 := ⟨fun b k w => by kernel_rfl⟩
instance : TyZ Try.prog 349 ((.agg #[.int .i64 0, .slice none 0 0])) := ⟨fun w => by kernel_rfl⟩
instance : TyA Try.prog 350 2 := ⟨fun w => by kernel_rfl, fun w => by kernel_rfl⟩
instance : FieldOff Try.prog 350 0 0 := ⟨fun b k w => by kernel_rfl⟩
instance : FieldOff Try.prog 350 1 1 := ⟨fun b k w => by kernel_rfl⟩
instance : TyZ Try.prog 350 ((.agg #[.int .i64 0, .slice none 0 0])) := ⟨fun w => by kernel_rfl⟩
instance : TyS Try.prog 351 := ⟨fun w => by kernel_rfl, fun w => by kernel_rfl⟩
instance : TyZ Try.prog 351 (.slice none 0 0) := ⟨fun w => by kernel_rfl⟩
instance : SlTy Try.prog 351 392 6 := ⟨by kernel_rfl, fun w => by kernel_rfl⟩
instance : ApTy Try.prog 351 392 6 112 := .of (by kernel_rfl) (by kernel_rfl) (by decide)
instance : TyA Try.prog 352 6 := ⟨fun w => by kernel_rfl, fun w => by kernel_rfl⟩
instance : FieldOff Try.prog 352 0 0 := ⟨fun b k w => by kernel_rfl⟩
instance : FieldOff Try.prog 352 1 1 := ⟨fun b k w => by kernel_rfl⟩
instance : FieldOff Try.prog 352 2 2 := ⟨fun b k w => by kernel_rfl⟩
instance : FieldOff Try.prog 352 3 3 := ⟨fun b k w => by kernel_rfl⟩
instance : FieldOff Try.prog 352 4 4 := ⟨fun b k w => by kernel_rfl⟩
instance : FieldOff Try.prog 352 5 5 := ⟨fun b k w => by kernel_rfl⟩
instance : TyZ Try.prog 352 ((.agg #[.int .i64 0, .int .i64 0, .int .i64 0, .int .i64 0, .int .i64 0, .int .i64 0])) := ⟨fun w => by kernel_rfl⟩
instance : TyA Try.prog 353 6 := ⟨fun w => by kernel_rfl, fun w => by kernel_rfl⟩
instance : FieldOff Try.prog 353 0 0 := ⟨fun b k w => by kernel_rfl⟩
instance : FieldOff Try.prog 353 1 1 := ⟨fun b k w => by kernel_rfl⟩
instance : FieldOff Try.prog 353 2 2 := ⟨fun b k w => by kernel_rfl⟩
instance : FieldOff Try.prog 353 3 3 := ⟨fun b k w => by kernel_rfl⟩
instance : FieldOff Try.prog 353 4 4 := ⟨fun b k w => by kernel_rfl⟩
instance : FieldOff Try.prog 353 5 5 := ⟨fun b k w => by kernel_rfl⟩
instance : TyZ Try.prog 353 ((.agg #[.int .i64 0, .int .i64 0, .int .i64 0, .int .i64 0, .int .i64 0, .int .i64 0])) := ⟨fun w => by kernel_rfl⟩
instance : TyS Try.prog 354 := ⟨fun w => by kernel_rfl, fun w => by kernel_rfl⟩
instance : TyZ Try.prog 354 (.slice none 0 0) := ⟨fun w => by kernel_rfl⟩
instance : SlTy Try.prog 354 395 8 := ⟨by kernel_rfl, fun w => by kernel_rfl⟩
instance : ApTy Try.prog 354 395 8 152 := .of (by kernel_rfl) (by kernel_rfl) (by decide)
instance : TyA Try.prog 355 55 := ⟨fun w => by kernel_rfl, fun w => by kernel_rfl⟩
instance : FieldOff Try.prog 355 0 0 := ⟨fun b k w => by kernel_rfl⟩
instance : FieldOff Try.prog 355 1 9 := ⟨fun b k w => by kernel_rfl⟩
instance : FieldOff Try.prog 355 2 10 := ⟨fun b k w => by kernel_rfl⟩
instance : FieldOff Try.prog 355 3 12 := ⟨fun b k w => by kernel_rfl⟩
instance : FieldOff Try.prog 355 4 23 := ⟨fun b k w => by kernel_rfl⟩
instance : FieldOff Try.prog 355 5 26 := ⟨fun b k w => by kernel_rfl⟩
instance : FieldOff Try.prog 355 6 32 := ⟨fun b k w => by kernel_rfl⟩
instance : FieldOff Try.prog 355 7 35 := ⟨fun b k w => by kernel_rfl⟩
instance : FieldOff Try.prog 355 8 37 := ⟨fun b k w => by kernel_rfl⟩
instance : FieldOff Try.prog 355 9 46 := ⟨fun b k w => by kernel_rfl⟩
instance : FieldOff Try.prog 355 10 47 := ⟨fun b k w => by kernel_rfl⟩
instance : FieldOff Try.prog 355 11 48 := ⟨fun b k w => by kernel_rfl⟩
instance : FieldOff Try.prog 355 12 54 := ⟨fun b k w => by kernel_rfl⟩
instance : TyZ Try.prog 355 ((.agg #[.int .i64 0, .int .i64 0, .int .i64 0, .int .i64 0, .int .i64 0, .int .i64 0, .int .i64 0, .int .i64 0, .int .i64 0, .bool false, .int .i64 0, .slice none 0 0, .int .i64 0, .slice none 0 0, .int .i64 0, .string ByteArray.empty, .int .i64 0, .int .i64 0, .string ByteArray.empty, .int .i64 0, .int .i64 0, .string ByteArray.empty, .int .i64 0, .int .i64 0, .int .i64 0, .slice none 0 0, .int .i64 0, .int .i64 0, .slice none 0 0, .slice none 0 0, .slice none 0 0, .slice none 0 0, .int .i64 0, .int .i64 0, .slice none 0 0, .int .i64 0, .slice none 0 0, .slice none 0 0, .slice none 0 0, .slice none 0 0, .slice none 0 0, .slice none 0 0, .slice none 0 0, .slice none 0 0, .slice none 0 0, .slice none 0 0, .slice none 0 0, .slice none 0 0, .int .i64 0, .int .i64 0, .int .i64 0, .int .i64 0, .int .i64 0, .int .i64 0, .slice none 0 0])) := ⟨fun w => by kernel_rfl⟩
instance : TyA Try.prog 356 55 := ⟨fun w => by kernel_rfl, fun w => by kernel_rfl⟩
instance : FieldOff Try.prog 356 0 0 := ⟨fun b k w => by kernel_rfl⟩
instance : FieldOff Try.prog 356 1 9 := ⟨fun b k w => by kernel_rfl⟩
instance : FieldOff Try.prog 356 2 10 := ⟨fun b k w => by kernel_rfl⟩
instance : FieldOff Try.prog 356 3 12 := ⟨fun b k w => by kernel_rfl⟩
instance : FieldOff Try.prog 356 4 23 := ⟨fun b k w => by kernel_rfl⟩
instance : FieldOff Try.prog 356 5 26 := ⟨fun b k w => by kernel_rfl⟩
instance : FieldOff Try.prog 356 6 32 := ⟨fun b k w => by kernel_rfl⟩
instance : FieldOff Try.prog 356 7 35 := ⟨fun b k w => by kernel_rfl⟩
instance : FieldOff Try.prog 356 8 37 := ⟨fun b k w => by kernel_rfl⟩
instance : FieldOff Try.prog 356 9 46 := ⟨fun b k w => by kernel_rfl⟩
instance : FieldOff Try.prog 356 10 47 := ⟨fun b k w => by kernel_rfl⟩
instance : FieldOff Try.prog 356 11 48 := ⟨fun b k w => by kernel_rfl⟩
instance : FieldOff Try.prog 356 12 54 := ⟨fun b k w => by kernel_rfl⟩
instance : TyZ Try.prog 356 ((.agg #[.int .i64 0, .int .i64 0, .int .i64 0, .int .i64 0, .int .i64 0, .int .i64 0, .int .i64 0, .int .i64 0, .int .i64 0, .bool false, .int .i64 0, .slice none 0 0, .int .i64 0, .slice none 0 0, .int .i64 0, .string ByteArray.empty, .int .i64 0, .int .i64 0, .string ByteArray.empty, .int .i64 0, .int .i64 0, .string ByteArray.empty, .int .i64 0, .int .i64 0, .int .i64 0, .slice none 0 0, .int .i64 0, .int .i64 0, .slice none 0 0, .slice none 0 0, .slice none 0 0, .slice none 0 0, .int .i64 0, .int .i64 0, .slice none 0 0, .int .i64 0, .slice none 0 0, .slice none 0 0, .slice none 0 0, .slice none 0 0, .slice none 0 0, .slice none 0 0, .slice none 0 0, .slice none 0 0, .slice none 0 0, .slice none 0 0, .slice none 0 0, .slice none 0 0, .int .i64 0, .int .i64 0, .int .i64 0, .int .i64 0, .int .i64 0, .int .i64 0, .slice none 0 0])) := ⟨fun w => by kernel_rfl⟩
instance : TyS Try.prog 357 := ⟨fun w => by kernel_rfl, fun w => by kernel_rfl⟩
instance : TyZ Try.prog 357 (.nilFunc) := ⟨fun w => by kernel_rfl⟩
instance : TyS Try.prog 358 := ⟨fun w => by kernel_rfl, fun w => by kernel_rfl⟩
instance : TyZ Try.prog 358 (.nilFunc) := ⟨fun w => by kernel_rfl⟩
instance : TyS Try.prog 359 := ⟨fun w => by kernel_rfl, fun w => by kernel_rfl⟩
instance : TyZ Try.prog 359 (.nilFunc) := ⟨fun w => by kernel_rfl⟩
instance : TyS Try.prog 360 := ⟨fun w => by kernel_rfl, fun w => by kernel_rfl⟩
instance : TyZ Try.prog 360 (.nilFunc) := ⟨fun w => by kernel_rfl⟩
instance : TyS Try.prog 361 := ⟨fun w => by kernel_rfl, fun w => by kernel_rfl⟩
instance : TyZ Try.prog 361 (.nilFunc) := ⟨fun w => by kernel_rfl⟩
instance : TyS Try.prog 362 := ⟨fun w => by kernel_rfl, fun w => by kernel_rfl⟩
instance : TyZ Try.prog 362 (.nilFunc) := ⟨fun w => by kernel_rfl⟩
instance : TyS Try.prog 363 := ⟨fun w => by kernel_rfl, fun w => by kernel_rfl⟩
instance : TyZ Try.prog 363 (.nilFunc) := ⟨fun w => by kernel_rfl⟩
instance : TyS Try.prog 364 := ⟨fun w => by kernel_rfl, fun w => by kernel_rfl⟩
instance : TyZ Try.prog 364 (.nilFunc) := ⟨fun w => by kernel_rfl⟩
instance : TyS Try.prog 365 := ⟨fun w => by kernel_rfl, fun w => by kernel_rfl⟩
instance : TyZ Try.prog 365 (.nilFunc) := ⟨fun w => by kernel_rfl⟩
instance : TyS Try.prog 366 := ⟨fun w => by kernel_rfl, fun w => by kernel_rfl⟩
instance : TyZ Try.prog 366 (.nilFunc) := ⟨fun w => by kernel_rfl⟩
instance : TyS Try.prog 367 := ⟨fun w => by kernel_rfl, fun w => by kernel_rfl⟩
instance : TyZ Try.prog 367 (.nilFunc) := ⟨fun w => by kernel_rfl⟩
instance : TyS Try.prog 368 := ⟨fun w => by kernel_rfl, fun w => by kernel_rfl⟩
instance : TyZ Try.prog 368 (.nilFunc) := ⟨fun w => by kernel_rfl⟩
instance : TyS Try.prog 369 := ⟨fun w => by kernel_rfl, fun w => by kernel_rfl⟩
instance : TyZ Try.prog 369 (.nilFunc) := ⟨fun w => by kernel_rfl⟩
instance : TyS Try.prog 370 := ⟨fun w => by kernel_rfl, fun w => by kernel_rfl⟩
instance : TyZ Try.prog 370 (.nilFunc) := ⟨fun w => by kernel_rfl⟩
instance : TyS Try.prog 371 := ⟨fun w => by kernel_rfl, fun w => by kernel_rfl⟩
instance : TyZ Try.prog 371 (.nilFunc) := ⟨fun w => by kernel_rfl⟩
instance : TyS Try.prog 372 := ⟨fun w => by kernel_rfl, fun w => by kernel_rfl⟩
instance : TyZ Try.prog 372 (.nilFunc) := ⟨fun w => by kernel_rfl⟩
instance : TyS Try.prog 374 := ⟨fun w => by kernel_rfl, fun w => by kernel_rfl⟩
instance : TyZ Try.prog 374 (.slice none 0 0) := ⟨fun w => by kernel_rfl⟩
instance : SlTy Try.prog 374 9 1 := ⟨by kernel_rfl, fun w => by kernel_rfl⟩
instance : ApTy Try.prog 374 9 1 16 := .of (by kernel_rfl) (by kernel_rfl) (by decide)
instance : TyA Try.prog 375 13 := ⟨fun w => by kernel_rfl, fun w => by kernel_rfl⟩
instance : FieldOff Try.prog 375 0 0 := ⟨fun b k w => by kernel_rfl⟩
instance : FieldOff Try.prog 375 1 1 := ⟨fun b k w => by kernel_rfl⟩
instance : FieldOff Try.prog 375 2 2 := ⟨fun b k w => by kernel_rfl⟩
instance : FieldOff Try.prog 375 3 3 := ⟨fun b k w => by kernel_rfl⟩
instance : FieldOff Try.prog 375 4 4 := ⟨fun b k w => by kernel_rfl⟩
instance : FieldOff Try.prog 375 5 5 := ⟨fun b k w => by kernel_rfl⟩
instance : FieldOff Try.prog 375 6 6 := ⟨fun b k w => by kernel_rfl⟩
instance : FieldOff Try.prog 375 7 7 := ⟨fun b k w => by kernel_rfl⟩
instance : TyZ Try.prog 375 ((.agg #[.slice none 0 0, .slice none 0 0, .slice none 0 0, .slice none 0 0, .slice none 0 0, .slice none 0 0, .int .i64 0, .int .i64 0, .int .i64 0, .int .i64 0, .int .i64 0, .int .i64 0, .int .i64 0])) := ⟨fun w => by kernel_rfl⟩
instance : TyA Try.prog 376 13 := ⟨fun w => by kernel_rfl, fun w => by kernel_rfl⟩
instance : FieldOff Try.prog 376 0 0 := ⟨fun b k w => by kernel_rfl⟩
instance : FieldOff Try.prog 376 1 1 := ⟨fun b k w => by kernel_rfl⟩
instance : FieldOff Try.prog 376 2 2 := ⟨fun b k w => by kernel_rfl⟩
instance : FieldOff Try.prog 376 3 3 := ⟨fun b k w => by kernel_rfl⟩
instance : FieldOff Try.prog 376 4 4 := ⟨fun b k w => by kernel_rfl⟩
instance : FieldOff Try.prog 376 5 5 := ⟨fun b k w => by kernel_rfl⟩
instance : FieldOff Try.prog 376 6 6 := ⟨fun b k w => by kernel_rfl⟩
instance : FieldOff Try.prog 376 7 7 := ⟨fun b k w => by kernel_rfl⟩
instance : TyZ Try.prog 376 ((.agg #[.slice none 0 0, .slice none 0 0, .slice none 0 0, .slice none 0 0, .slice none 0 0, .slice none 0 0, .int .i64 0, .int .i64 0, .int .i64 0, .int .i64 0, .int .i64 0, .int .i64 0, .int .i64 0])) := ⟨fun w => by kernel_rfl⟩
instance : TyA Try.prog 377 9 := ⟨fun w => by kernel_rfl, fun w => by kernel_rfl⟩
instance : FieldOff Try.prog 377 0 0 := ⟨fun b k w => by kernel_rfl⟩
instance : FieldOff Try.prog 377 1 3 := ⟨fun b k w => by kernel_rfl⟩
instance : FieldOff Try.prog 377 2 4 := ⟨fun b k w => by kernel_rfl⟩
instance : FieldOff Try.prog 377 3 5 := ⟨fun b k w => by kernel_rfl⟩
instance : FieldOff Try.prog 377 4 6 := ⟨fun b k w => by kernel_rfl⟩
instance : TyZ Try.prog 377 ((.agg #[.int .i64 0, .string ByteArray.empty, .int .i64 0, .int .i64 0, .string ByteArray.empty, .slice none 0 0, .int .i64 0, .string ByteArray.empty, .int .i64 0])) := ⟨fun w => by kernel_rfl⟩
instance : TyA Try.prog 378 9 := ⟨fun w => by kernel_rfl, fun w => by kernel_rfl⟩
instance : FieldOff Try.prog 378 0 0 := ⟨fun b k w => by kernel_rfl⟩
instance : FieldOff Try.prog 378 1 3 := ⟨fun b k w => by kernel_rfl⟩
instance : FieldOff Try.prog 378 2 4 := ⟨fun b k w => by kernel_rfl⟩
instance : FieldOff Try.prog 378 3 5 := ⟨fun b k w => by kernel_rfl⟩
instance : FieldOff Try.prog 378 4 6 := ⟨fun b k w => by kernel_rfl⟩
instance : TyZ Try.prog 378 ((.agg #[.int .i64 0, .string ByteArray.empty, .int .i64 0, .int .i64 0, .string ByteArray.empty, .slice none 0 0, .int .i64 0, .string ByteArray.empty, .int .i64 0])) := ⟨fun w => by kernel_rfl⟩
instance : TyS Try.prog 379 := ⟨fun w => by kernel_rfl, fun w => by kernel_rfl⟩
instance : TyZ Try.prog 379 (.slice none 0 0) := ⟨fun w => by kernel_rfl⟩
instance : SlTy Try.prog 379 408 7 := ⟨by kernel_rfl, fun w => by kernel_rfl⟩
instance : ApTy Try.prog 379 408 7 112 := .of (by kernel_rfl) (by kernel_rfl) (by decide)
instance : TyS Try.prog 380 := ⟨fun w => by kernel_rfl, fun w => by kernel_rfl⟩
instance : TyZ Try.prog 380 (.slice none 0 0) := ⟨fun w => by kernel_rfl⟩
instance : SlTy Try.prog 380 414 19 := ⟨by kernel_rfl, fun w => by kernel_rfl⟩
instance : ApTy Try.prog 380 414 19 224 := .of (by kernel_rfl) (by kernel_rfl) (by decide)
instance : TyA Try.prog 381 3 := ⟨fun w => by kernel_rfl, fun w => by kernel_rfl⟩
instance : FieldOff Try.prog 381 0 0 := ⟨fun b k w => by kernel_rfl⟩
instance : FieldOff Try.prog 381 1 1 := ⟨fun b k w => by kernel_rfl⟩
instance : FieldOff Try.prog 381 2 2 := ⟨fun b k w => by kernel_rfl⟩
instance : TyZ Try.prog 381 ((.agg #[.string ByteArray.empty, .slice none 0 0, .slice none 0 0])) := ⟨fun w => by kernel_rfl⟩
instance : TyA Try.prog 382 3 := ⟨fun w => by kernel_rfl, fun w => by kernel_rfl⟩
instance : FieldOff Try.prog 382 0 0 := ⟨fun b k w => by kernel_rfl⟩
instance : FieldOff Try.prog 382 1 1 := ⟨fun b k w => by kernel_rfl⟩
instance : FieldOff Try.prog 382 2 2 := ⟨fun b k w => by kernel_rfl⟩
instance : TyZ Try.prog 382 ((.agg #[.string ByteArray.empty, .slice none 0 0, .slice none 0 0])) := ⟨fun w => by kernel_rfl⟩
instance : TyS Try.prog 383 := ⟨fun w => by kernel_rfl, fun w => by kernel_rfl⟩
instance : TyZ Try.prog 383 (.slice none 0 0) := ⟨fun w => by kernel_rfl⟩
instance : SlTy Try.prog 383 416 3 := ⟨by kernel_rfl, fun w => by kernel_rfl⟩
instance : ApTy Try.prog 383 416 3 56 := .of (by kernel_rfl) (by kernel_rfl) (by decide)
instance : TyA Try.prog 384 5 := ⟨fun w => by kernel_rfl, fun w => by kernel_rfl⟩
instance : FieldOff Try.prog 384 0 0 := ⟨fun b k w => by kernel_rfl⟩
instance : FieldOff Try.prog 384 1 1 := ⟨fun b k w => by kernel_rfl⟩
instance : FieldOff Try.prog 384 2 2 := ⟨fun b k w => by kernel_rfl⟩
instance : FieldOff Try.prog 384 3 3 := ⟨fun b k w => by kernel_rfl⟩
instance : FieldOff Try.prog 384 4 4 := ⟨fun b k w => by kernel_rfl⟩
instance : TyZ Try.prog 384 ((.agg #[.int .i64 0, .int .i64 0, .string ByteArray.empty, .slice none 0 0, .bool false])) := ⟨fun w => by kernel_rfl⟩
instance : TyA Try.prog 385 5 := ⟨fun w => by kernel_rfl, fun w => by kernel_rfl⟩
instance : FieldOff Try.prog 385 0 0 := ⟨fun b k w => by kernel_rfl⟩
instance : FieldOff Try.prog 385 1 1 := ⟨fun b k w => by kernel_rfl⟩
instance : FieldOff Try.prog 385 2 2 := ⟨fun b k w => by kernel_rfl⟩
instance : FieldOff Try.prog 385 3 3 := ⟨fun b k w => by kernel_rfl⟩
instance : FieldOff Try.prog 385 4 4 := ⟨fun b k w => by kernel_rfl⟩
instance : TyZ Try.prog 385 ((.agg #[.int .i64 0, .int .i64 0, .string ByteArray.empty, .slice none 0 0, .bool false])) := ⟨fun w => by kernel_rfl⟩
instance : TyA Try.prog 386 16 := ⟨fun w => by kernel_rfl, fun w => by kernel_rfl⟩
instance : FieldOff Try.prog 386 0 0 := ⟨fun b k w => by kernel_rfl⟩
instance : FieldOff Try.prog 386 1 3 := ⟨fun b k w => by kernel_rfl⟩
instance : FieldOff Try.prog 386 2 6 := ⟨fun b k w => by kernel_rfl⟩
instance : FieldOff Try.prog 386 3 9 := ⟨fun b k w => by kernel_rfl⟩
instance : FieldOff Try.prog 386 4 12 := ⟨fun b k w => by kernel_rfl⟩
instance : FieldOff Try.prog 386 5 13 := ⟨fun b k w => by kernel_rfl⟩
instance : FieldOff Try.prog 386 6 14 := ⟨fun b k w => by kernel_rfl⟩
instance : FieldOff Try.prog 386 7 15 := ⟨fun b k w => by kernel_rfl⟩
instance : TyZ Try.prog 386 ((.agg #[.int .i64 0, .string ByteArray.empty, .int .i64 0, .int .i64 0, .string ByteArray.empty, .int .i64 0, .int .i64 0, .string ByteArray.empty, .int .i64 0, .int .i64 0, .string ByteArray.empty, .int .i64 0, .int .i64 0, .bool false, .int .i64 0, .int .i64 0])) := ⟨fun w => by kernel_rfl⟩
instance : TyA Try.prog 387 16 := ⟨fun w => by kernel_rfl, fun w => by kernel_rfl⟩
instance : FieldOff Try.prog 387 0 0 := ⟨fun b k w => by kernel_rfl⟩
instance : FieldOff Try.prog 387 1 3 := ⟨fun b k w => by kernel_rfl⟩
instance : FieldOff Try.prog 387 2 6 := ⟨fun b k w => by kernel_rfl⟩
instance : FieldOff Try.prog 387 3 9 := ⟨fun b k w => by kernel_rfl⟩
instance : FieldOff Try.prog 387 4 12 := ⟨fun b k w => by kernel_rfl⟩
instance : FieldOff Try.prog 387 5 13 := ⟨fun b k w => by kernel_rfl⟩
instance : FieldOff Try.prog 387 6 14 := ⟨fun b k w => by kernel_rfl⟩
instance : FieldOff Try.prog 387 7 15 := ⟨fun b k w => by kernel_rfl⟩
instance : TyZ Try.prog 387 ((.agg #[.int .i64 0, .string ByteArray.empty, .int .i64 0, .int .i64 0, .string ByteArray.empty, .int .i64 0, .int .i64 0, .string ByteArray.empty, .int .i64 0, .int .i64 0, .string ByteArray.empty, .int .i64 0, .int .i64 0, .bool false, .int .i64 0, .int .i64 0])) := ⟨fun w => by kernel_rfl⟩
instance : TyS Try.prog 388 := ⟨fun w => by kernel_rfl, fun w => by kernel_rfl⟩
instance : TyZ Try.prog 388 (.slice none 0 0) := ⟨fun w => by kernel_rfl⟩
instance : SlTy Try.prog 388 418 14 := ⟨by kernel_rfl, fun w => by kernel_rfl⟩
instance : ApTy Try.prog 388 418 14 128 := .of (by kernel_rfl) (by kernel_rfl) (by decide)
instance : TyS Try.prog 389 := ⟨fun w => by kernel_rfl, fun w => by kernel_rfl⟩
instance : TyZ Try.prog 389 (.slice none 0 0) := ⟨fun w => by kernel_rfl⟩
instance : SlTy Try.prog 389 420 8 := ⟨by kernel_rfl, fun w => by kernel_rfl⟩
instance : ApTy Try.prog 389 420 8 136 := .of (by kernel_rfl) (by kernel_rfl) (by decide)
instance : TyS Try.prog 390 := ⟨fun w => by kernel_rfl, fun w => by kernel_rfl⟩
instance : TyZ Try.prog 390 (.slice none 0 0) := ⟨fun w => by kernel_rfl⟩
instance : SlTy Try.prog 390 422 7 := ⟨by kernel_rfl, fun w => by kernel_rfl⟩
instance : ApTy Try.prog 390 422 7 72 := .of (by kernel_rfl) (by kernel_rfl) (by decide)
instance : TyA Try.prog 391 6 := ⟨fun w => by kernel_rfl, fun w => by kernel_rfl⟩
instance : FieldOff Try.prog 391 0 0 := ⟨fun b k w => by kernel_rfl⟩
instance : FieldOff Try.prog 391 1 1 := ⟨fun b k w => by kernel_rfl⟩
instance : FieldOff Try.prog 391 2 2 := ⟨fun b k w => by kernel_rfl⟩
instance : FieldOff Try.prog 391 3 3 := ⟨fun b k w => by kernel_rfl⟩
instance : FieldOff Try.prog 391 4 4 := ⟨fun b k w => by kernel_rfl⟩
instance : FieldOff Try.prog 391 5 5 := ⟨fun b k w => by kernel_rfl⟩
instance : TyZ Try.prog 391 ((.agg #[.int .i64 0, .int .i64 0, .slice none 0 0, .slice none 0 0, .slice none 0 0, .slice none 0 0])) := ⟨fun w => by kernel_rfl⟩
instance : TyA Try.prog 392 6 := ⟨fun w => by kernel_rfl, fun w => by kernel_rfl⟩
instance : FieldOff Try.prog 392 0 0 := ⟨fun b k w => by kernel_rfl⟩
instance : FieldOff Try.prog 392 1 1 := ⟨fun b k w => by kernel_rfl⟩
instance : FieldOff Try.prog 392 2 2 := ⟨fun b k w => by kernel_rfl⟩
instance : FieldOff Try.prog 392 3 3 := ⟨fun b k w => by kernel_rfl⟩
instance : FieldOff Try.prog 392 4 4 := ⟨fun b k w => by kernel_rfl⟩
instance : FieldOff Try.prog 392 5 5 := ⟨fun b k w => by kernel_rfl⟩
instance : TyZ Try.prog 392 ((.agg #[.int .i64 0, .int .i64 0, .slice none 0 0, .slice none 0 0, .slice none 0 0, .slice none 0 0])) := ⟨fun w => by kernel_rfl⟩
instance : TyS Try.prog 393 := ⟨fun w => by kernel_rfl, fun w => by kernel_rfl⟩
instance : TyZ Try.prog 393 (.slice none 0 0) := ⟨fun w => by kernel_rfl⟩
instance : SlTy Try.prog 393 423 4 := ⟨by kernel_rfl, fun w => by kernel_rfl⟩
instance : ApTy Try.prog 393 423 4 48 := .of (by kernel_rfl) (by kernel_rfl) (by decide)
instance : TyA Try.prog 394 8 := ⟨fun w => by kernel_rfl, fun w => by kernel_rfl⟩
instance : FieldOff Try.prog 394 0 0 := ⟨fun b k w => by kernel_rfl⟩
instance : FieldOff Try.prog 394 1 1 := ⟨fun b k w => by kernel_rfl⟩
instance : FieldOff Try.prog 394 2 2 := ⟨fun b k w => by kernel_rfl⟩
instance : FieldOff Try.prog 394 3 5 := ⟨fun b k w => by kernel_rfl⟩
instance : FieldOff Try.prog 394 4 6 := ⟨fun b k w => by kernel_rfl⟩
instance : FieldOff Try.prog 394 5 7 := ⟨fun b k w => by kernel_rfl⟩
instance : TyZ Try.prog 394 ((.agg #[.int .i64 0, .int .i64 0, .string ByteArray.empty, .slice none 0 0, .slice none 0 0, .slice none 0 0, .slice none 0 0, .slice none 0 0])) := ⟨fun w => by kernel_rfl⟩
instance : TyA Try.prog 395 8 := ⟨fun w => by kernel_rfl, fun w => by kernel_rfl⟩
instance : FieldOff Try.prog 395 0 0 := ⟨fun b k w => by kernel_rfl⟩
instance : FieldOff Try.prog 395 1 1 := ⟨fun b k w => by kernel_rfl⟩
instance : FieldOff Try.prog 395 2 2 := ⟨fun b k w => by kernel_rfl⟩
instance : FieldOff Try.prog 395 3 5 := ⟨fun b k w => by kernel_rfl⟩
instance : FieldOff Try.prog 395 4 6 := ⟨fun b k w => by kernel_rfl⟩
instance : FieldOff Try.prog 395 5 7 := ⟨fun b k w => by kernel_rfl⟩
instance : TyZ Try.prog 395 ((.agg #[.int .i64 0, .int .i64 0, .string ByteArray.empty, .slice none 0 0, .slice none 0 0, .slice none 0 0, .slice none 0 0, .slice none 0 0])) := ⟨fun w => by kernel_rfl⟩
instance : TyS Try.prog 396 := ⟨fun w => by kernel_rfl, fun w => by kernel_rfl⟩
instance : TyZ Try.prog 396 (.nilFunc) := ⟨fun w => by kernel_rfl⟩
instance : TyS Try.prog 397 := ⟨fun w => by kernel_rfl, fun w => by kernel_rfl⟩
instance : TyZ Try.prog 397 (.nilFunc) := ⟨fun w => by kernel_rfl⟩
instance : TyS Try.prog 398 := ⟨fun w => by kernel_rfl, fun w => by kernel_rfl⟩
instance : TyZ Try.prog 398 (.nilFunc) := ⟨fun w => by kernel_rfl⟩
instance : TyS Try.prog 399 := ⟨fun w => by kernel_rfl, fun w => by kernel_rfl⟩
instance : TyZ Try.prog 399 (.nilFunc) := ⟨fun w => by kernel_rfl⟩
instance : TyS Try.prog 400 := ⟨fun w => by kernel_rfl, fun w => by kernel_rfl⟩
instance : TyZ Try.prog 400 (.nilFunc) := ⟨fun w => by kernel_rfl⟩
instance : TyS Try.prog 401 := ⟨fun w => by kernel_rfl, fun w => by kernel_rfl⟩
instance : TyZ Try.prog 401 (.nilFunc) := ⟨fun w => by kernel_rfl⟩
instance : TyS Try.prog 402 := ⟨fun w => by kernel_rfl, fun w => by kernel_rfl⟩
instance : TyZ Try.prog 402 (.nilFunc) := ⟨fun w => by kernel_rfl⟩
instance : TyS Try.prog 403 := ⟨fun w => by kernel_rfl, fun w => by kernel_rfl⟩
instance : TyZ Try.prog 403 (.nilFunc) := ⟨fun w => by kernel_rfl⟩
instance : TyS Try.prog 404 := ⟨fun w => by kernel_rfl, fun w => by kernel_rfl⟩
instance : TyZ Try.prog 404 (.nilFunc) := ⟨fun w => by kernel_rfl⟩
instance : TyS Try.prog 405 := ⟨fun w => by kernel_rfl, fun w => by kernel_rfl⟩
instance : TyZ Try.prog 405 (.nilFunc) := ⟨fun w => by kernel_rfl⟩
instance : TyS Try.prog 406 := ⟨fun w => by kernel_rfl, fun w => by kernel_rfl⟩
instance : TyZ Try.prog 406 (.slice none 0 0) := ⟨fun w => by kernel_rfl⟩
instance : SlTy Try.prog 406 426 6 := ⟨by kernel_rfl, fun w => by kernel_rfl⟩
instance : ApTy Try.prog 406 426 6 80 := .of (by kernel_rfl) (by kernel_rfl) (by decide)
instance : TyA Try.prog 407 7 := ⟨fun w => by kernel_rfl, fun w => by kernel_rfl⟩
instance : FieldOff Try.prog 407 0 0 := ⟨fun b k w => by kernel_rfl⟩
instance : FieldOff Try.prog 407 1 1 := ⟨fun b k w => by kernel_rfl⟩
instance : FieldOff Try.prog 407 2 2 := ⟨fun b k w => by kernel_rfl⟩
instance : FieldOff Try.prog 407 3 3 := ⟨fun b k w => by kernel_rfl⟩
instance : FieldOff Try.prog 407 4 4 := ⟨fun b k w => by kernel_rfl⟩
instance : FieldOff Try.prog 407 5 5 := ⟨fun b k w => by kernel_rfl⟩
instance : FieldOff Try.prog 407 6 6 := ⟨fun b k w => by kernel_rfl⟩
instance : TyZ Try.prog 407 ((.agg #[.int .i64 0, .bool false, .string ByteArray.empty, .slice none 0 0, .slice none 0 0, .bool false, .slice none 0 0])) := ⟨fun w => by kernel_rfl⟩
instance : TyA Try.prog 408 7 := ⟨fun w => by kernel_rfl, fun w => by kernel_rfl⟩
instance : FieldOff Try.prog 408 0 0 := ⟨fun b k w => by kernel_rfl⟩
instance : FieldOff Try.prog 408 1 1 := ⟨fun b k w => by kernel_rfl⟩
instance : FieldOff Try.prog 408 2 2 := ⟨fun b k w => by kernel_rfl⟩
instance : FieldOff Try.prog 408 3 3 := ⟨fun b k w => by kernel_rfl⟩
instance : FieldOff Try.prog 408 4 4 := ⟨fun b k w => by kernel_rfl⟩
instance : FieldOff Try.prog 408 5 5 := ⟨fun b k w => by kernel_rfl⟩
instance : FieldOff Try.prog 408 6 6 := ⟨fun b k w => by kernel_rfl⟩
instance : TyZ Try.prog 408 ((.agg #[.int .i64 0, .bool false, .string ByteArray.empty, .slice none 0 0, .slice none 0 0, .bool false, .slice none 0 0])) := ⟨fun w => by kernel_rfl⟩
instance : TyA Try.prog 409 4 := ⟨fun w => by kernel_rfl, fun w => by kernel_rfl⟩
instance : FieldOff Try.prog 409 0 0 := ⟨fun b k w => by kernel_rfl⟩
instance : FieldOff Try.prog 409 1 1 := ⟨fun b k w => by kernel_rfl⟩
instance : TyZ Try.prog 409 ((.agg #[.string ByteArray.empty, .int .i64 0, .string ByteArray.empty, .int .i64 0])) := ⟨fun w => by kernel_rfl⟩
instance : TyA Try.prog 410 4 := ⟨fun w => by kernel_rfl, fun w => by kernel_rfl⟩
instance : FieldOff Try.prog 410 0 0 := ⟨fun b k w => by kernel_rfl⟩
instance : FieldOff Try.prog 410 1 1 := ⟨fun b k w => by kernel_rfl⟩
instance : TyZ Try.prog 410 ((.agg #[.string ByteArray.empty, .int .i64 0, .string ByteArray.empty, .int .i64 0])) := ⟨fun w => by kernel_rfl⟩
instance : TyA Try.prog 411 9 := ⟨fun w => by kernel_rfl, fun w => by kernel_rfl⟩
instance : FieldOff Try.prog 411 0 0 := ⟨fun b k w => by kernel_rfl⟩
instance : FieldOff Try.prog 411 1 1 := ⟨fun b k w => by kernel_rfl⟩
instance : FieldOff Try.prog 411 2 5 := ⟨fun b k w => by kernel_rfl⟩
instance : TyZ Try.prog 411 ((.agg #[.int .i64 0, .string ByteArray.empty, .int .i64 0, .string ByteArray.empty, .int .i64 0, .string ByteArray.empty, .int .i64 0, .string ByteArray.empty, .int .i64 0])) := ⟨fun w => by kernel_rfl⟩
instance : TyA Try.prog 412 9 := ⟨fun w => by kernel_rfl, fun w => by kernel_rfl⟩
instance : FieldOff Try.prog 412 0 0 := ⟨fun b k w => by kernel_rfl⟩
instance : FieldOff Try.prog 412 1 1 := ⟨fun b k w => by kernel_rfl⟩
instance : FieldOff Try.prog 412 2 5 := ⟨fun b k w => by kernel_rfl⟩
instance : TyZ Try.prog 412 ((.agg #[.int .i64 0, .string ByteArray.empty, .int .i64 0, .string ByteArray.empty, .int .i64 0, .string ByteArray.empty, .int .i64 0, .string ByteArray.empty, .int .i64 0])) := ⟨fun w => by kernel_rfl⟩
instance : TyA Try.prog 413 19 := ⟨fun w => by kernel_rfl, fun w => by kernel_rfl⟩
instance : FieldOff Try.prog 413 0 0 := ⟨fun b k w => by kernel_rfl⟩
instance : FieldOff Try.prog 413 1 1 := ⟨fun b k w => by kernel_rfl⟩
instance : FieldOff Try.prog 413 2 5 := ⟨fun b k w => by kernel_rfl⟩
instance : FieldOff Try.prog 413 3 14 := ⟨fun b k w => by kernel_rfl⟩
instance : FieldOff Try.prog 413 4 15 := ⟨fun b k w => by kernel_rfl⟩
instance : TyZ Try.prog 413 ((.agg #[.string ByteArray.empty, .string ByteArray.empty, .int .i64 0, .string ByteArray.empty, .int .i64 0, .int .i64 0, .string ByteArray.empty, .int .i64 0, .string ByteArray.empty, .int .i64 0, .string ByteArray.empty, .int .i64 0, .string ByteArray.empty, .int .i64 0, .int .i64 0, .string ByteArray.empty, .int .i64 0, .string ByteArray.empty, .int .i64 0])) := ⟨fun w => by kernel_rfl⟩
instance : TyA Try.prog 414 19 := ⟨fun w => by kernel_rfl, fun w => by kernel_rfl⟩
instance : FieldOff Try.prog 414 0 0 := ⟨fun b k w => by kernel_rfl⟩
instance : FieldOff Try.prog 414 1 1 := ⟨fun b k w => by kernel_rfl⟩
instance : FieldOff Try.prog 414 2 5 := ⟨fun b k w => by kernel_rfl⟩
instance : FieldOff Try.prog 414 3 14 := ⟨fun b k w => by kernel_rfl⟩
instance : FieldOff Try.prog 414 4 15 := ⟨fun b k w => by kernel_rfl⟩
instance : TyZ Try.prog 414 ((.agg #[.string ByteArray.empty, .string ByteArray.empty, .int .i64 0, .string ByteArray.empty, .int .i64 0, .int .i64 0, .string ByteArray.empty, .int .i64 0, .string ByteArray.empty, .int .i64 0, .string ByteArray.empty, .int .i64 0, .string ByteArray.empty, .int .i64 0, .int .i64 0, .string ByteArray.empty, .int .i64 0, .string ByteArray.empty, .int .i64 0])) := ⟨fun w => by kernel_rfl⟩
instance : TyA Try.prog 415 3 := ⟨fun w => by kernel_rfl, fun w => by kernel_rfl⟩
instance : FieldOff Try.prog 415 0 0 := ⟨fun b k w => by kernel_rfl⟩
instance : FieldOff Try.prog 415 1 1 := ⟨fun b k w => by kernel_rfl⟩
instance : FieldOff Try.prog 415 2 2 := ⟨fun b k w => by kernel_rfl⟩
instance : TyZ Try.prog 415 ((.agg #[.slice none 0 0, .slice none 0 0, .int .i64 0])) := ⟨fun w => by kernel_rfl⟩
instance : TyA Try.prog 416 3 := ⟨fun w => by kernel_rfl, fun w => by kernel_rfl⟩
instance : FieldOff Try.prog 416 0 0 := ⟨fun b k w => by kernel_rfl⟩
instance : FieldOff Try.prog 416 1 1 := ⟨fun b k w => by kernel_rfl⟩
instance : FieldOff Try.prog 416 2 2 := ⟨fun b k w => by kernel_rfl⟩
instance : TyZ Try.prog 416 ((.agg #[.slice none 0 0, .slice none 0 0, .int .i64 0])) := ⟨fun w => by kernel_rfl⟩
instance : TyA Try.prog 417 14 := ⟨fun w => by kernel_rfl, fun w => by kernel_rfl⟩
instance : FieldOff Try.prog 417 0 0 := ⟨fun b k w => by kernel_rfl⟩
instance : FieldOff Try.prog 417 1 12 := ⟨fun b k w => by kernel_rfl⟩
instance : FieldOff Try.prog 417 2 13 := ⟨fun b k w => by kernel_rfl⟩
instance : TyZ Try.prog 417 ((.agg #[.int .i64 0, .string ByteArray.empty, .int .i64 0, .int .i64 0, .string ByteArray.empty, .int .i64 0, .int .i64 0, .string ByteArray.empty, .int .i64 0, .bool false, .bool false, .int .i64 0, .int .i64 0, .int .i64 0])) := ⟨fun w => by kernel_rfl⟩
instance : TyA Try.prog 418 14 := ⟨fun w => by kernel_rfl, fun w => by kernel_rfl⟩
instance : FieldOff Try.prog 418 0 0 := ⟨fun b k w => by kernel_rfl⟩
instance : FieldOff Try.prog 418 1 12 := ⟨fun b k w => by kernel_rfl⟩
instance : FieldOff Try.prog 418 2 13 := ⟨fun b k w => by kernel_rfl⟩
instance : TyZ Try.prog 418 ((.agg #[.int .i64 0, .string ByteArray.empty, .int .i64 0, .int .i64 0, .string ByteArray.empty, .int .i64 0, .int .i64 0, .string ByteArray.empty, .int .i64 0, .bool false, .bool false, .int .i64 0, .int .i64 0, .int .i64 0])) := ⟨fun w => by kernel_rfl⟩
instance : TyA Try.prog 419 8 := ⟨fun w => by kernel_rfl, fun w => by kernel_rfl⟩
instance : FieldOff Try.prog 419 0 0 := ⟨fun b k w => by kernel_rfl⟩
instance : FieldOff Try.prog 419 1 7 := ⟨fun b k w => by kernel_rfl⟩
instance : TyZ Try.prog 419 ((.agg #[.int .i64 0, .bool false, .string ByteArray.empty, .slice none 0 0, .slice none 0 0, .bool false, .slice none 0 0, .slice none 0 0])) := ⟨fun w => by kernel_rfl⟩
instance : TyA Try.prog 420 8 := ⟨fun w => by kernel_rfl, fun w => by kernel_rfl⟩
instance : FieldOff Try.prog 420 0 0 := ⟨fun b k w => by kernel_rfl⟩
instance : FieldOff Try.prog 420 1 7 := ⟨fun b k w => by kernel_rfl⟩
instance : TyZ Try.prog 420 ((.agg #[.int .i64 0, .bool false, .string ByteArray.empty, .slice none 0 0, .slice none 0 0, .bool false, .slice none 0 0, .slice none 0 0])) := ⟨fun w => by kernel_rfl⟩
instance : TyA Try.prog 421 7 := ⟨fun w => by kernel_rfl, fun w => by kernel_rfl⟩
instance : FieldOff Try.prog 421 0 0 := ⟨fun b k w => by kernel_rfl⟩
instance : FieldOff Try.prog 421 1 3 := ⟨fun b k w => by kernel_rfl⟩
instance : FieldOff Try.prog 421 2 6 := ⟨fun b k w => by kernel_rfl⟩
instance : TyZ Try.prog 421 ((.agg #[.int .i64 0, .string ByteArray.empty, .int .i64 0, .int .i64 0, .string ByteArray.empty, .int .i64 0, .int .i64 0])) := ⟨fun w => by kernel_rfl⟩
instance : TyA Try.prog 422 7 := ⟨fun w => by kernel_rfl, fun w => by kernel_rfl⟩
instance : FieldOff Try.prog 422 0 0 := ⟨fun b k w => by kernel_rfl⟩
instance : FieldOff Try.prog 422 1 3 := ⟨fun b k w => by kernel_rfl⟩
instance : FieldOff Try.prog 422 2 6 := ⟨fun b k w => by kernel_rfl⟩
instance : TyZ Try.prog 422 ((.agg #[.int .i64 0, .string ByteArray.empty, .int .i64 0, .int .i64 0, .string ByteArray.empty, .int .i64 0, .int .i64 0])) := ⟨fun w => by kernel_rfl⟩
instance : TyA Try.prog 423 4 := ⟨fun w => by kernel_rfl, fun w => by kernel_rfl⟩
instance : FieldOff Try.prog 423 0 0 := ⟨fun b k w => by kernel_rfl⟩
instance : FieldOff Try.prog 423 1 1 := ⟨fun b k w => by kernel_rfl⟩
instance : TyZ Try.prog 423 ((.agg #[.string ByteArray.empty, .int .i64 0, .string ByteArray.empty, .int .i64 0])) := ⟨fun w => by kernel_rfl⟩
instance : TyS Try.prog 424 := ⟨fun w => by kernel_rfl, fun w => by kernel_rfl⟩
instance : TyZ Try.prog 424 (.nilFunc) := ⟨fun w => by kernel_rfl⟩
instance : TyA Try.prog 425 6 := ⟨fun w => by kernel_rfl, fun w => by kernel_rfl⟩
instance : FieldOff Try.prog 425 0 0 := ⟨fun b k w => by kernel_rfl⟩
instance : FieldOff Try.prog 425 1 1 := ⟨fun b k w => by kernel_rfl⟩
instance : FieldOff Try.prog 425 2 2 := ⟨fun b k w => by kernel_rfl⟩
instance : FieldOff Try.prog 425 3 5 := ⟨fun b k w => by kernel_rfl⟩
instance : TyZ Try.prog 425 ((.agg #[.int .i64 0, .string ByteArray.empty, .int .i64 0, .string ByteArray.empty, .int .i64 0, .slice none 0 0])) := ⟨fun w => by kernel_rfl⟩
instance : TyA Try.prog 426 6 := ⟨fun w => by kernel_rfl, fun w => by kernel_rfl⟩
instance : FieldOff Try.prog 426 0 0 := ⟨fun b k w => by kernel_rfl⟩
instance : FieldOff Try.prog 426 1 1 := ⟨fun b k w => by kernel_rfl⟩
instance : FieldOff Try.prog 426 2 2 := ⟨fun b k w => by kernel_rfl⟩
instance : FieldOff Try.prog 426 3 5 := ⟨fun b k w => by kernel_rfl⟩
instance : TyZ Try.prog 426 ((.agg #[.int .i64 0, .string ByteArray.empty, .int .i64 0, .string ByteArray.empty, .int .i64 0, .slice none 0 0])) := ⟨fun w => by kernel_rfl⟩
instance : En Try.prog 3 := ⟨enters_of Try.func3 (by kernel_rfl) rfl⟩
instance : En Try.prog 4 := ⟨enters_of Try.func4 (by kernel_rfl) rfl⟩
instance : En Try.prog 5 := ⟨enters_of Try.func5 (by kernel_rfl) rfl⟩
instance : En Try.prog 6 := ⟨enters_of Try.func6 (by kernel_rfl) rfl⟩
instance : En Try.prog 7 := ⟨enters_of Try.func7 (by kernel_rfl) rfl⟩
instance : En Try.prog 8 := ⟨enters_of Try.func8 (by kernel_rfl) rfl⟩
instance : En Try.prog 9 := ⟨enters_of Try.func9 (by kernel_rfl) rfl⟩
instance : En Try.prog 10 := ⟨enters_of Try.func10 (by kernel_rfl) rfl⟩
instance : En Try.prog 11 := ⟨enters_of Try.func11 (by kernel_rfl) rfl⟩
instance : En Try.prog 12 := ⟨enters_of Try.func12 (by kernel_rfl) rfl⟩
instance : En Try.prog 13 := ⟨enters_of Try.func13 (by kernel_rfl) rfl⟩
instance : En Try.prog 14 := ⟨enters_of Try.func14 (by kernel_rfl) rfl⟩
instance : En Try.prog 15 := ⟨enters_of Try.func15 (by kernel_rfl) rfl⟩
instance : En Try.prog 16 := ⟨enters_of Try.func16 (by kernel_rfl) rfl⟩
instance : En Try.prog 17 := ⟨enters_of Try.func17 (by kernel_rfl) rfl⟩
instance : En Try.prog 18 := ⟨enters_of Try.func18 (by kernel_rfl) rfl⟩
instance : En Try.prog 19 := ⟨enters_of Try.func19 (by kernel_rfl) rfl⟩
instance : En Try.prog 20 := ⟨enters_of Try.func20 (by kernel_rfl) rfl⟩
instance : En Try.prog 21 := ⟨enters_of Try.func21 (by kernel_rfl) rfl⟩
instance : En Try.prog 22 := ⟨enters_of Try.func22 (by kernel_rfl) rfl⟩
instance : En Try.prog 23 := ⟨enters_of Try.func23 (by kernel_rfl) rfl⟩
instance : En Try.prog 24 := ⟨enters_of Try.func24 (by kernel_rfl) rfl⟩
instance : En Try.prog 25 := ⟨enters_of Try.func25 (by kernel_rfl) rfl⟩
instance : En Try.prog 26 := ⟨enters_of Try.func26 (by kernel_rfl) rfl⟩
instance : En Try.prog 27 := ⟨enters_of Try.func27 (by kernel_rfl) rfl⟩
instance : En Try.prog 28 := ⟨enters_of Try.func28 (by kernel_rfl) rfl⟩
instance : En Try.prog 29 := ⟨enters_of Try.func29 (by kernel_rfl) rfl⟩
instance : En Try.prog 30 := ⟨enters_of Try.func30 (by kernel_rfl) rfl⟩
instance : En Try.prog 31 := ⟨enters_of Try.func31 (by kernel_rfl) rfl⟩
instance : En Try.prog 32 := ⟨enters_of Try.func32 (by kernel_rfl) rfl⟩
instance : En Try.prog 33 := ⟨enters_of Try.func33 (by kernel_rfl) rfl⟩
instance : En Try.prog 34 := ⟨enters_of Try.func34 (by kernel_rfl) rfl⟩
instance : En Try.prog 35 := ⟨enters_of Try.func35 (by kernel_rfl) rfl⟩
instance : En Try.prog 36 := ⟨enters_of Try.func36 (by kernel_rfl) rfl⟩
instance : En Try.prog 37 := ⟨enters_of Try.func37 (by kernel_rfl) rfl⟩
instance : En Try.prog 38 := ⟨enters_of Try.func38 (by kernel_rfl) rfl⟩
instance : En Try.prog 39 := ⟨enters_of Try.func39 (by kernel_rfl) rfl⟩
instance : En Try.prog 40 := ⟨enters_of Try.func40 (by kernel_rfl) rfl⟩
instance : En Try.prog 41 := ⟨enters_of Try.func41 (by kernel_rfl) rfl⟩
instance : En Try.prog 42 := ⟨enters_of Try.func42 (by kernel_rfl) rfl⟩
instance : En Try.prog 43 := ⟨enters_of Try.func43 (by kernel_rfl) rfl⟩
instance : En Try.prog 44 := ⟨enters_of Try.func44 (by kernel_rfl) rfl⟩
instance : En Try.prog 45 := ⟨enters_of Try.func45 (by kernel_rfl) rfl⟩
instance : En Try.prog 46 := ⟨enters_of Try.func46 (by kernel_rfl) rfl⟩
instance : En Try.prog 47 := ⟨enters_of Try.func47 (by kernel_rfl) rfl⟩
instance : En Try.prog 48 := ⟨enters_of Try.func48 (by kernel_rfl) rfl⟩
instance : En Try.prog 49 := ⟨enters_of Try.func49 (by kernel_rfl) rfl⟩
instance : En Try.prog 50 := ⟨enters_of Try.func50 (by kernel_rfl) rfl⟩
instance : En Try.prog 51 := ⟨enters_of Try.func51 (by kernel_rfl) rfl⟩
instance : En Try.prog 52 := ⟨enters_of Try.func52 (by kernel_rfl) rfl⟩
instance : En Try.prog 53 := ⟨enters_of Try.func53 (by kernel_rfl) rfl⟩
instance : En Try.prog 54 := ⟨enters_of Try.func54 (by kernel_rfl) rfl⟩
instance : En Try.prog 55 := ⟨enters_of Try.func55 (by kernel_rfl) rfl⟩
instance : En Try.prog 56 := ⟨enters_of Try.func56 (by kernel_rfl) rfl⟩
instance : En Try.prog 57 := ⟨enters_of Try.func57 (by kernel_rfl) rfl⟩
instance : En Try.prog 58 := ⟨enters_of Try.func58 (by kernel_rfl) rfl⟩
instance : En Try.prog 59 := ⟨enters_of Try.func59 (by kernel_rfl) rfl⟩
instance : En Try.prog 60 := ⟨enters_of Try.func60 (by kernel_rfl) rfl⟩
instance : En Try.prog 61 := ⟨enters_of Try.func61 (by kernel_rfl) rfl⟩
instance : En Try.prog 62 := ⟨enters_of Try.func62 (by kernel_rfl) rfl⟩
instance : En Try.prog 63 := ⟨enters_of Try.func63 (by kernel_rfl) rfl⟩
instance : En Try.prog 64 := ⟨enters_of Try.func64 (by kernel_rfl) rfl⟩
instance : En Try.prog 65 := ⟨enters_of Try.func65 (by kernel_rfl) rfl⟩
instance : En Try.prog 66 := ⟨enters_of Try.func66 (by kernel_rfl) rfl⟩
instance : En Try.prog 67 := ⟨enters_of Try.func67 (by kernel_rfl) rfl⟩
instance : En Try.prog 68 := ⟨enters_of Try.func68 (by kernel_rfl) rfl⟩
instance : En Try.prog 69 := ⟨enters_of Try.func69 (by kernel_rfl) rfl⟩
instance : En Try.prog 70 := ⟨enters_of Try.func70 (by kernel_rfl) rfl⟩
instance : En Try.prog 71 := ⟨enters_of Try.func71 (by kernel_rfl) rfl⟩
instance : En Try.prog 72 := ⟨enters_of Try.func72 (by kernel_rfl) rfl⟩
instance : En Try.prog 73 := ⟨enters_of Try.func73 (by kernel_rfl) rfl⟩
instance : En Try.prog 74 := ⟨enters_of Try.func74 (by kernel_rfl) rfl⟩
instance : En Try.prog 75 := ⟨enters_of Try.func75 (by kernel_rfl) rfl⟩
instance : En Try.prog 76 := ⟨enters_of Try.func76 (by kernel_rfl) rfl⟩
instance : En Try.prog 77 := ⟨enters_of Try.func77 (by kernel_rfl) rfl⟩
instance : En Try.prog 78 := ⟨enters_of Try.func78 (by kernel_rfl) rfl⟩
instance : En Try.prog 79 := ⟨enters_of Try.func79 (by kernel_rfl) rfl⟩
instance : En Try.prog 80 := ⟨enters_of Try.func80 (by kernel_rfl) rfl⟩
instance : En Try.prog 81 := ⟨enters_of Try.func81 (by kernel_rfl) rfl⟩
instance : En Try.prog 82 := ⟨enters_of Try.func82 (by kernel_rfl) rfl⟩
instance : En Try.prog 83 := ⟨enters_of Try.func83 (by kernel_rfl) rfl⟩
instance : En Try.prog 84 := ⟨enters_of Try.func84 (by kernel_rfl) rfl⟩
instance : En Try.prog 85 := ⟨enters_of Try.func85 (by kernel_rfl) rfl⟩
instance : En Try.prog 86 := ⟨enters_of Try.func86 (by kernel_rfl) rfl⟩
instance : En Try.prog 87 := ⟨enters_of Try.func87 (by kernel_rfl) rfl⟩
instance : En Try.prog 88 := ⟨enters_of Try.func88 (by kernel_rfl) rfl⟩
instance : En Try.prog 89 := ⟨enters_of Try.func89 (by kernel_rfl) rfl⟩
instance : En Try.prog 90 := ⟨enters_of Try.func90 (by kernel_rfl) rfl⟩
instance : En Try.prog 91 := ⟨enters_of Try.func91 (by kernel_rfl) rfl⟩
instance : En Try.prog 92 := ⟨enters_of Try.func92 (by kernel_rfl) rfl⟩
instance : En Try.prog 93 := ⟨enters_of Try.func93 (by kernel_rfl) rfl⟩
instance : En Try.prog 94 := ⟨enters_of Try.func94 (by kernel_rfl) rfl⟩
instance : En Try.prog 95 := ⟨enters_of Try.func95 (by kernel_rfl) rfl⟩
instance : En Try.prog 96 := ⟨enters_of Try.func96 (by kernel_rfl) rfl⟩
instance : En Try.prog 97 := ⟨enters_of Try.func97 (by kernel_rfl) rfl⟩
instance : En Try.prog 98 := ⟨enters_of Try.func98 (by kernel_rfl) rfl⟩
instance : En Try.prog 99 := ⟨enters_of Try.func99 (by kernel_rfl) rfl⟩
instance : En Try.prog 100 := ⟨enters_of Try.func100 (by kernel_rfl) rfl⟩
instance : En Try.prog 101 := ⟨enters_of Try.func101 (by kernel_rfl) rfl⟩
instance : En Try.prog 102 := ⟨enters_of Try.func102 (by kernel_rfl) rfl⟩
instance : En Try.prog 103 := ⟨enters_of Try.func103 (by kernel_rfl) rfl⟩
instance : En Try.prog 104 := ⟨enters_of Try.func104 (by kernel_rfl) rfl⟩
instance : En Try.prog 105 := ⟨enters_of Try.func105 (by kernel_rfl) rfl⟩
instance : En Try.prog 106 := ⟨enters_of Try.func106 (by kernel_rfl) rfl⟩
instance : En Try.prog 107 := ⟨enters_of Try.func107 (by kernel_rfl) rfl⟩
instance : En Try.prog 108 := ⟨enters_of Try.func108 (by kernel_rfl) rfl⟩
instance : En Try.prog 109 := ⟨enters_of Try.func109 (by kernel_rfl) rfl⟩
instance : En Try.prog 110 := ⟨enters_of Try.func110 (by kernel_rfl) rfl⟩
instance : En Try.prog 111 := ⟨enters_of Try.func111 (by kernel_rfl) rfl⟩
instance : En Try.prog 112 := ⟨enters_of Try.func112 (by kernel_rfl) rfl⟩
instance : En Try.prog 113 := ⟨enters_of Try.func113 (by kernel_rfl) rfl⟩
instance : En Try.prog 114 := ⟨enters_of Try.func114 (by kernel_rfl) rfl⟩
instance : En Try.prog 115 := ⟨enters_of Try.func115 (by kernel_rfl) rfl⟩
instance : En Try.prog 116 := ⟨enters_of Try.func116 (by kernel_rfl) rfl⟩
instance : En Try.prog 117 := ⟨enters_of Try.func117 (by kernel_rfl) rfl⟩
instance : En Try.prog 118 := ⟨enters_of Try.func118 (by kernel_rfl) rfl⟩
instance : En Try.prog 119 := ⟨enters_of Try.func119 (by kernel_rfl) rfl⟩
instance : En Try.prog 120 := ⟨enters_of Try.func120 (by kernel_rfl) rfl⟩
instance : En Try.prog 121 := ⟨enters_of Try.func121 (by kernel_rfl) rfl⟩
instance : En Try.prog 122 := ⟨enters_of Try.func122 (by kernel_rfl) rfl⟩
instance : En Try.prog 123 := ⟨enters_of Try.func123 (by kernel_rfl) rfl⟩
instance : En Try.prog 124 := ⟨enters_of Try.func124 (by kernel_rfl) rfl⟩
instance : En Try.prog 125 := ⟨enters_of Try.func125 (by kernel_rfl) rfl⟩
instance : En Try.prog 126 := ⟨enters_of Try.func126 (by kernel_rfl) rfl⟩
instance : En Try.prog 127 := ⟨enters_of Try.func127 (by kernel_rfl) rfl⟩
instance : En Try.prog 128 := ⟨enters_of Try.func128 (by kernel_rfl) rfl⟩
instance : En Try.prog 129 := ⟨enters_of Try.func129 (by kernel_rfl) rfl⟩
instance : En Try.prog 130 := ⟨enters_of Try.func130 (by kernel_rfl) rfl⟩
instance : En Try.prog 131 := ⟨enters_of Try.func131 (by kernel_rfl) rfl⟩
instance : En Try.prog 132 := ⟨enters_of Try.func132 (by kernel_rfl) rfl⟩
instance : En Try.prog 133 := ⟨enters_of Try.func133 (by kernel_rfl) rfl⟩
instance : En Try.prog 134 := ⟨enters_of Try.func134 (by kernel_rfl) rfl⟩
instance : En Try.prog 135 := ⟨enters_of Try.func135 (by kernel_rfl) rfl⟩
instance : En Try.prog 136 := ⟨enters_of Try.func136 (by kernel_rfl) rfl⟩
instance : En Try.prog 137 := ⟨enters_of Try.func137 (by kernel_rfl) rfl⟩
instance : En Try.prog 138 := ⟨enters_of Try.func138 (by kernel_rfl) rfl⟩
instance : En Try.prog 139 := ⟨enters_of Try.func139 (by kernel_rfl) rfl⟩
instance : En Try.prog 140 := ⟨enters_of Try.func140 (by kernel_rfl) rfl⟩
instance : En Try.prog 141 := ⟨enters_of Try.func141 (by kernel_rfl) rfl⟩
instance : En Try.prog 142 := ⟨enters_of Try.func142 (by kernel_rfl) rfl⟩
instance : En Try.prog 143 := ⟨enters_of Try.func143 (by kernel_rfl) rfl⟩
instance : En Try.prog 144 := ⟨enters_of Try.func144 (by kernel_rfl) rfl⟩
instance : En Try.prog 145 := ⟨enters_of Try.func145 (by kernel_rfl) rfl⟩
instance : En Try.prog 146 := ⟨enters_of Try.func146 (by kernel_rfl) rfl⟩
instance : En Try.prog 147 := ⟨enters_of Try.func147 (by kernel_rfl) rfl⟩
instance : En Try.prog 148 := ⟨enters_of Try.func148 (by kernel_rfl) rfl⟩
instance : En Try.prog 149 := ⟨enters_of Try.func149 (by kernel_rfl) rfl⟩
instance : En Try.prog 150 := ⟨enters_of Try.func150 (by kernel_rfl) rfl⟩
instance : En Try.prog 151 := ⟨enters_of Try.func151 (by kernel_rfl) rfl⟩
instance : En Try.prog 152 := ⟨enters_of Try.func152 (by kernel_rfl) rfl⟩
instance : En Try.prog 153 := ⟨enters_of Try.func153 (by kernel_rfl) rfl⟩
instance : En Try.prog 154 := ⟨enters_of Try.func154 (by kernel_rfl) rfl⟩
instance : En Try.prog 155 := ⟨enters_of Try.func155 (by kernel_rfl) rfl⟩
instance : En Try.prog 156 := ⟨enters_of Try.func156 (by kernel_rfl) rfl⟩
instance : En Try.prog 157 := ⟨enters_of Try.func157 (by kernel_rfl) rfl⟩
instance : En Try.prog 158 := ⟨enters_of Try.func158 (by kernel_rfl) rfl⟩
instance : En Try.prog 159 := ⟨enters_of Try.func159 (by kernel_rfl) rfl⟩
instance : En Try.prog 160 := ⟨enters_of Try.func160 (by kernel_rfl) rfl⟩
instance : En Try.prog 161 := ⟨enters_of Try.func161 (by kernel_rfl) rfl⟩
instance : En Try.prog 162 := ⟨enters_of Try.func162 (by kernel_rfl) rfl⟩
instance : En Try.prog 163 := ⟨enters_of Try.func163 (by kernel_rfl) rfl⟩
instance : En Try.prog 164 := ⟨enters_of Try.func164 (by kernel_rfl) rfl⟩
instance : En Try.prog 165 := ⟨enters_of Try.func165 (by kernel_rfl) rfl⟩
instance : En Try.prog 166 := ⟨enters_of Try.func166 (by kernel_rfl) rfl⟩
instance : En Try.prog 167 := ⟨enters_of Try.func167 (by kernel_rfl) rfl⟩
instance : En Try.prog 168 := ⟨enters_of Try.func168 (by kernel_rfl) rfl⟩
instance : En Try.prog 169 := ⟨enters_of Try.func169 (by kernel_rfl) rfl⟩
instance : En Try.prog 170 := ⟨enters_of Try.func170 (by kernel_rfl) rfl⟩
instance : En Try.prog 171 := ⟨enters_of Try.func171 (by kernel_rfl) rfl⟩
instance : En Try.prog 172 := ⟨enters_of Try.func172 (by kernel_rfl) rfl⟩
instance : En Try.prog 173 := ⟨enters_of Try.func173 (by kernel_rfl) rfl⟩
instance : En Try.prog 174 := ⟨enters_of Try.func174 (by kernel_rfl) rfl⟩
instance : En Try.prog 175 := ⟨enters_of Try.func175 (by kernel_rfl) rfl⟩
instance : En Try.prog 176 := ⟨enters_of Try.func176 (by kernel_rfl) rfl⟩
instance : En Try.prog 177 := ⟨enters_of Try.func177 (by kernel_rfl) rfl⟩
instance : En Try.prog 178 := ⟨enters_of Try.func178 (by kernel_rfl) rfl⟩
instance : En Try.prog 179 := ⟨enters_of Try.func179 (by kernel_rfl) rfl⟩
instance : En Try.prog 180 := ⟨enters_of Try.func180 (by kernel_rfl) rfl⟩
instance : En Try.prog 181 := ⟨enters_of Try.func181 (by kernel_rfl) rfl⟩
instance : En Try.prog 182 := ⟨enters_of Try.func182 (by kernel_rfl) rfl⟩
instance : En Try.prog 183 := ⟨enters_of Try.func183 (by kernel_rfl) rfl⟩
instance : En Try.prog 184 := ⟨enters_of Try.func184 (by kernel_rfl) rfl⟩
instance : En Try.prog 185 := ⟨enters_of Try.func185 (by kernel_rfl) rfl⟩
instance : En Try.prog 186 := ⟨enters_of Try.func186 (by kernel_rfl) rfl⟩
instance : En Try.prog 187 := ⟨enters_of Try.func187 (by kernel_rfl) rfl⟩
instance : En Try.prog 188 := ⟨enters_of Try.func188 (by kernel_rfl) rfl⟩
instance : En Try.prog 189 := ⟨enters_of Try.func189 (by kernel_rfl) rfl⟩
instance : En Try.prog 190 := ⟨enters_of Try.func190 (by kernel_rfl) rfl⟩
instance : En Try.prog 191 := ⟨enters_of Try.func191 (by kernel_rfl) rfl⟩
instance : En Try.prog 192 := ⟨enters_of Try.func192 (by kernel_rfl) rfl⟩
instance : En Try.prog 193 := ⟨enters_of Try.func193 (by kernel_rfl) rfl⟩
instance : En Try.prog 194 := ⟨enters_of Try.func194 (by kernel_rfl) rfl⟩
instance : En Try.prog 195 := ⟨enters_of Try.func195 (by kernel_rfl) rfl⟩
instance : En Try.prog 196 := ⟨enters_of Try.func196 (by kernel_rfl) rfl⟩
instance : En Try.prog 197 := ⟨enters_of Try.func197 (by kernel_rfl) rfl⟩
instance : En Try.prog 198 := ⟨enters_of Try.func198 (by kernel_rfl) rfl⟩
instance : En Try.prog 199 := ⟨enters_of Try.func199 (by kernel_rfl) rfl⟩
instance : En Try.prog 200 := ⟨enters_of Try.func200 (by kernel_rfl) rfl⟩
instance : En Try.prog 201 := ⟨enters_of Try.func201 (by kernel_rfl) rfl⟩
instance : En Try.prog 202 := ⟨enters_of Try.func202 (by kernel_rfl) rfl⟩
instance : En Try.prog 203 := ⟨enters_of Try.func203 (by kernel_rfl) rfl⟩
instance : En Try.prog 204 := ⟨enters_of Try.func204 (by kernel_rfl) rfl⟩
instance : En Try.prog 205 := ⟨enters_of Try.func205 (by kernel_rfl) rfl⟩
instance : En Try.prog 206 := ⟨enters_of Try.func206 (by kernel_rfl) rfl⟩
instance : En Try.prog 207 := ⟨enters_of Try.func207 (by kernel_rfl) rfl⟩
instance : En Try.prog 208 := ⟨enters_of Try.func208 (by kernel_rfl) rfl⟩
instance : En Try.prog 209 := ⟨enters_of Try.func209 (by kernel_rfl) rfl⟩
instance : En Try.prog 210 := ⟨enters_of Try.func210 (by kernel_rfl) rfl⟩
instance : En Try.prog 211 := ⟨enters_of Try.func211 (by kernel_rfl) rfl⟩
instance : En Try.prog 212 := ⟨enters_of Try.func212 (by kernel_rfl) rfl⟩
instance : En Try.prog 213 := ⟨enters_of Try.func213 (by kernel_rfl) rfl⟩
instance : En Try.prog 214 := ⟨enters_of Try.func214 (by kernel_rfl) rfl⟩
instance : En Try.prog 215 := ⟨enters_of Try.func215 (by kernel_rfl) rfl⟩
instance : En Try.prog 216 := ⟨enters_of Try.func216 (by kernel_rfl) rfl⟩
instance : En Try.prog 217 := ⟨enters_of Try.func217 (by kernel_rfl) rfl⟩
instance : En Try.prog 218 := ⟨enters_of Try.func218 (by kernel_rfl) rfl⟩
instance : En Try.prog 219 := ⟨enters_of Try.func219 (by kernel_rfl) rfl⟩
instance : En Try.prog 220 := ⟨enters_of Try.func220 (by kernel_rfl) rfl⟩
instance : En Try.prog 221 := ⟨enters_of Try.func221 (by kernel_rfl) rfl⟩
instance : En Try.prog 222 := ⟨enters_of Try.func222 (by kernel_rfl) rfl⟩
instance : En Try.prog 223 := ⟨enters_of Try.func223 (by kernel_rfl) rfl⟩
instance : En Try.prog 224 := ⟨enters_of Try.func224 (by kernel_rfl) rfl⟩
instance : En Try.prog 225 := ⟨enters_of Try.func225 (by kernel_rfl) rfl⟩
instance : En Try.prog 226 := ⟨enters_of Try.func226 (by kernel_rfl) rfl⟩
instance : En Try.prog 227 := ⟨enters_of Try.func227 (by kernel_rfl) rfl⟩
instance : En Try.prog 228 := ⟨enters_of Try.func228 (by kernel_rfl) rfl⟩
instance : En Try.prog 229 := ⟨enters_of Try.func229 (by kernel_rfl) rfl⟩
instance : En Try.prog 230 := ⟨enters_of Try.func230 (by kernel_rfl) rfl⟩
instance : En Try.prog 231 := ⟨enters_of Try.func231 (by kernel_rfl) rfl⟩
instance : En Try.prog 232 := ⟨enters_of Try.func232 (by kernel_rfl) rfl⟩
instance : En Try.prog 233 := ⟨enters_of Try.func233 (by kernel_rfl) rfl⟩
instance : En Try.prog 234 := ⟨enters_of Try.func234 (by kernel_rfl) rfl⟩
instance : En Try.prog 235 := ⟨enters_of Try.func235 (by kernel_rfl) rfl⟩
instance : En Try.prog 236 := ⟨enters_of Try.func236 (by kernel_rfl) rfl⟩
instance : En Try.prog 237 := ⟨enters_of Try.func237 (by kernel_rfl) rfl⟩
instance : En Try.prog 238 := ⟨enters_of Try.func238 (by kernel_rfl) rfl⟩
instance : En Try.prog 254 := ⟨enters_of Try.func254 (by kernel_rfl) rfl⟩
instance : En Try.prog 255 := ⟨enters_of Try.func255 (by kernel_rfl) rfl⟩
instance : En Try.prog 256 := ⟨enters_of Try.func256 (by kernel_rfl) rfl⟩
instance : En Try.prog 257 := ⟨enters_of Try.func257 (by kernel_rfl) rfl⟩
instance : En Try.prog 258 := ⟨enters_of Try.func258 (by kernel_rfl) rfl⟩
instance : En Try.prog 259 := ⟨enters_of Try.func259 (by kernel_rfl) rfl⟩
instance : En Try.prog 269 := ⟨enters_of Try.func269 (by kernel_rfl) rfl⟩
instance : En Try.prog 271 := ⟨enters_of Try.func271 (by kernel_rfl) rfl⟩
instance : En Try.prog 283 := ⟨enters_of Try.func283 (by kernel_rfl) rfl⟩
instance : En Try.prog 289 := ⟨enters_of Try.func289 (by kernel_rfl) rfl⟩
instance : En Try.prog 293 := ⟨enters_of Try.func293 (by kernel_rfl) rfl⟩
instance : En Try.prog 294 := ⟨enters_of Try.func294 (by kernel_rfl) rfl⟩
instance : En Try.prog 305 := ⟨enters_of Try.func305 (by kernel_rfl) rfl⟩
end Go.Proofs.Ytfakoemkapankaa
/- Symbols, elements, preferences as data; what '==' on them comes to. -/
namespace Go.Proofs.Ytfakoemkapankaa
open Go Go.Sl
attribute [local irreducible] Code.wpIn roundPost bodyPostM runL Ret Meets Begin

/-! ### '==' on structs -/
def EqF (P : Program) (d : Nat) (w : World) (xs ys : Array Value) : List (TypeId × Nat) → Bool → Prop
  | [], r => r = true
  | (t, o) :: l, r => ∃ u v r1 r2, (part t xs o).run P w = .ok u w ∧ (part t ys o).run P w = .ok v w ∧ (Op.equalIn d t u v).run P w = .ok r1 w ∧ EqF P d w xs ys l r2 ∧ r = (r1 && r2)
theorem eqFields_of {P : Program} {d : Nat} {w : World} {xs ys : Array Value} : ∀ {fs : List Field} {l : List (TypeId × Nat)} {r : Bool}, fs.map (fun f => (f.type, f.offset)) = l → fs.all (fun f => f.name != "_") = true →
    EqF P d w xs ys l r → (Op.eqFields d xs ys fs).run P w = .ok r w
  | [], l, r, hm, _, h => by
    subst hm
    simp only [List.map_nil, EqF] at h
    subst h
    rfl
  | f :: fs, l, r, hm, hn, h => by
    subst hm
    simp only [List.map_cons, EqF] at h
    obtain ⟨u, v, r1, r2, h1, h2, h3, h4, rfl⟩ := h
    simp only [List.all_cons, Bool.and_eq_true] at hn
    have hne : f.name ≠ "_" := by simpa using hn.1
    have ih := eqFields_of rfl hn.2 h4
    simp only [Op.eqFields, if_pos hne, Sem.run_bind, h1, h2, h3, Result.andThen_ok]
    cases r1
    · simp
    · simpa using ih
theorem equalIn_of {P : Program} {d : Nat} {w : World} {t : TypeId} {xs ys : Array Value} {l : List (TypeId × Nat)} {r : Bool} (ht : P.underlying t = some (.struct (P.fieldsOf t))) (hp : P.stoodInHeld t = false)
    (hm : (P.fieldsOf t).toList.map (fun f => (f.type, f.offset)) = l) (hn : (P.fieldsOf t).toList.all (fun f => f.name != "_") = true) (h : EqF P d w xs ys l r) : (Op.equalIn (d + 1) t (.agg xs) (.agg ys)).run P w = .ok r w := by
  rw [run_equalIn_agg w d t xs ys ht hp]
  exact eqFields_of hm hn h
theorem eqTy_of {P : Program} {t : TypeId} {xs ys : Array Value} {r : Bool} (hg : P.eqGuardType P.depth t = false) (h : ∀ w, (Op.equalIn 10000 t (.agg xs) (.agg ys)).run P w = .ok r w) : EqTy P t (.agg xs) (.agg ys) r := by
  refine ⟨fun w => ?_, fun w => ?_, fun op x y w => run_eqGuard_agg w op t x y xs ys hg⟩
  · rw [run_eql_struct, h w]; rfl
  · rw [run_neq_struct, h w]; rfl

structure SymD where
  kind : Int
  text : ByteArray
  n : Int
def SymD.cells (s : SymD) : List Value := [.int .i64 s.kind, .string s.text, .int .i64 s.n]
def SymD.val (s : SymD) : Value := .agg #[.int .i64 s.kind, .string s.text, .int .i64 s.n]
def SymD.beq (a b : SymD) : Bool := a.kind == b.kind && (a.text.toList == b.text.toList && (a.n == b.n && true))
theorem eqIn_sym (d : Nat) (a b : SymD) (w : World) : (Op.equalIn (d + 2) 25 a.val b.val).run Try.prog w = .ok (a.beq b) w :=
  equalIn_of (l := [(3, 0), (9, 1), (3, 2)]) (by kernel_rfl) (by kernel_rfl) (by kernel_rfl) (by kernel_rfl)
    ⟨.int .i64 a.kind, .int .i64 b.kind, _, _, by kernel_rfl, by kernel_rfl, run_equalIn_int w d _ _ .i64 _ _ (by kernel_rfl),
      ⟨.string a.text, .string b.text, _, _, by kernel_rfl, by kernel_rfl, run_equalIn_string w d _ _ _ (by kernel_rfl),
        ⟨.int .i64 a.n, .int .i64 b.n, _, _, by kernel_rfl, by kernel_rfl, run_equalIn_int w d _ _ .i64 _ _ (by kernel_rfl), rfl, rfl⟩, rfl⟩, rfl⟩
theorem eq_sym (a b : SymD) : EqTy Try.prog 25 a.val b.val (a.beq b) := eqTy_of (by kernel_rfl) (fun w => eqIn_sym 9998 a b w)

structure ElemD where
  id : SymD
  attr : SymD
  value : SymD
  acc : Bool
  goal : Bool
  tag : Int
def ElemD.val (e : ElemD) : Value := .agg #[.int .i64 e.id.kind, .string e.id.text, .int .i64 e.id.n, .int .i64 e.attr.kind, .string e.attr.text, .int .i64 e.attr.n, .int .i64 e.value.kind, .string e.value.text, .int .i64 e.value.n, .bool e.acc, .bool e.goal, .int .i64 e.tag]
def ElemD.beq (a b : ElemD) : Bool := a.id.beq b.id && (a.attr.beq b.attr && (a.value.beq b.value && (a.acc == b.acc && (a.goal == b.goal && (a.tag == b.tag && true)))))
theorem eq_elem (a b : ElemD) : EqTy Try.prog 35 a.val b.val (a.beq b) := eqTy_of (by kernel_rfl) fun w =>
  equalIn_of (l := [(25, 0), (25, 3), (25, 6), (4, 9), (4, 10), (3, 11)]) (by kernel_rfl) (by kernel_rfl) (by kernel_rfl) (by kernel_rfl)
    ⟨a.id.val, b.id.val, _, _, by kernel_rfl, by kernel_rfl, eqIn_sym 9997 _ _ w,
      ⟨a.attr.val, b.attr.val, _, _, by kernel_rfl, by kernel_rfl, eqIn_sym 9997 _ _ w,
        ⟨a.value.val, b.value.val, _, _, by kernel_rfl, by kernel_rfl, eqIn_sym 9997 _ _ w,
          ⟨.bool a.acc, .bool b.acc, _, _, by kernel_rfl, by kernel_rfl, run_equalIn_bool' w 9998 _ _ _ (by kernel_rfl),
            ⟨.bool a.goal, .bool b.goal, _, _, by kernel_rfl, by kernel_rfl, run_equalIn_bool' w 9998 _ _ _ (by kernel_rfl),
              ⟨.int .i64 a.tag, .int .i64 b.tag, _, _, by kernel_rfl, by kernel_rfl, run_equalIn_int w 9998 _ _ .i64 _ _ (by kernel_rfl), rfl, rfl⟩, rfl⟩, rfl⟩, rfl⟩, rfl⟩, rfl⟩
theorem eq_bool (a b : Bool) : EqTy Try.prog 4 (.bool a) (.bool b) (a == b) := by
  have h : ∀ w, (Op.equal 4 (.bool a) (.bool b)).run Try.prog w = .ok (a == b) w := fun w => run_equal_bool w _ a b (by kernel_rfl)
  refine ⟨fun w => ?_, fun w => ?_, fun op x y w => ?_⟩
  · simp only [binOp]
    simp [h]
  · simp only [binOp]
    simp [h]
  · cases op <;> rfl
theorem toList_inj (a b : ByteArray) : a.toList = b.toList ↔ a = b := by
  rw [ByteArray.toList_eq, ByteArray.toList_eq]
  obtain ⟨⟨x⟩⟩ := a
  obtain ⟨⟨y⟩⟩ := b
  simp
theorem SymD.beq_iff (a b : SymD) : a.beq b = true ↔ a = b := by
  obtain ⟨k, t, n⟩ := a
  obtain ⟨k', t', n'⟩ := b
  simp only [SymD.beq, Bool.and_eq_true, and_true, SymD.mk.injEq, beq_iff_eq, toList_inj]
theorem ElemD.beq_iff (a b : ElemD) : a.beq b = true ↔ a = b := by
  obtain ⟨i, at_, v, ac, g, t⟩ := a
  obtain ⟨i', at', v', ac', g', t'⟩ := b
  simp only [ElemD.beq, Bool.and_eq_true, SymD.beq_iff, and_true, ElemD.mk.injEq, beq_iff_eq]
end Go.Proofs.Ytfakoemkapankaa
/- Numbers and elements as cells. -/
namespace Go.Proofs.Ytfakoemkapankaa
open Go Go.Sl

def encI (m : Int) : List Value := [.int .i64 m]
instance : EncLen encI 1 := ⟨fun _ => rfl, fun _ u h => by simp [encI] at h; subst h; rfl⟩
def encS (s : SymD) : List Value := s.val.cells.toList
instance : EncLen encS 3 := ⟨fun _ => rfl, fun e u h => by simp [encS, SymD.val, Value.cells] at h; rcases h with h | h | h <;> subst h <;> rfl⟩
def encE (e : ElemD) : List Value := e.val.cells.toList
instance : EncLen encE 12 := ⟨fun _ => rfl, fun e u h => by simp [encE, ElemD.val, Value.cells] at h; rcases h with h | h | h | h | h | h | h | h | h | h | h | h <;> subst h <;> rfl⟩
theorem take_snoc {α : Type} (ys : List α) (i : Nat) (y : α) (h : ys[i]? = some y) : ys.take (i + 1) = ys.take i ++ [y] := by rw [List.take_add_one, h]; rfl

end Go.Proofs.Ytfakoemkapankaa
/- Symbols, elements, numbers among a law's arguments. -/
namespace Go.Proofs.Ytfakoemkapankaa
open Go Go.Sl Go.RowKit Go.ChangeShapes Go.WideShapes Go.Deep

section
variable {H : Type} {enc : TypeId × Value → H} {W : World}
set_option maxRecDepth 100000 in
theorem cells_field {P : Program} {t ft : TypeId} {n i off sz : Nat} {cs : List Value} {x : DataW H × List MemPlace} (ht : P.underlying t = some (.struct (P.fieldsOf t))) (h : DataW.trod enc P W 0 (fun _ => true) true n t cs = some x)
    (hf : ((P.fieldsOf t)[i]?).map (fun f => (f.type, f.offset)) = some (ft, off)) (hsz : P.cellsOf ft = sz) : ∃ m y, DataW.trod enc P W 0 (fun _ => true) true m ft ((cs.drop off).take sz) = some y := by
  obtain ⟨xs, m, _, _, _, hlen, hg⟩ := DataW.trod_struct ht h
  cases hi : (P.fieldsOf t)[i]? with
  | none => rw [hi] at hf; cases hf
  | some f =>
    rw [hi] at hf
    cases hf
    subst hsz
    have hlt : i < xs.length := by rw [hlen]; exact (Array.getElem?_eq_some_iff.1 hi).1
    exact ⟨m, xs[i], (hg i f hi).trans (List.getElem?_eq_getElem hlt)⟩
set_option maxRecDepth 100000 in
theorem cells_length {P : Program} {t : TypeId} {n sz : Nat} {cs : List Value} {x : DataW H × List MemPlace} (ht : P.underlying t = some (.struct (P.fieldsOf t))) (h : DataW.trod enc P W 0 (fun _ => true) true n t cs = some x) (hsz : P.cellsOf t = sz) : cs.length = sz := by
  obtain ⟨_, _, _, _, hl, _⟩ := DataW.trod_struct ht h
  exact hl.trans hsz
set_option maxRecDepth 100000 in
theorem cells_int {n : Nat} {cs : List Value} {x : DataW H × List MemPlace} (h : DataW.trod enc Try.prog W 0 (fun _ => true) true n 3 cs = some x) : ∃ k, cs = [.int .i64 k] :=
  let ⟨k, h, _⟩ := DataW.trod_int (by kernel_rfl) h; ⟨k, h⟩
set_option maxRecDepth 100000 in
theorem cells_bool {n : Nat} {cs : List Value} {x : DataW H × List MemPlace} (h : DataW.trod enc Try.prog W 0 (fun _ => true) true n 4 cs = some x) : ∃ k, cs = [.bool k] :=
  let ⟨k, h, _⟩ := DataW.trod_bool (by kernel_rfl) h; ⟨k, h⟩
set_option maxRecDepth 100000 in
theorem cells_string {n : Nat} {cs : List Value} {x : DataW H × List MemPlace} (h : DataW.trod enc Try.prog W 0 (fun _ => true) true n 9 cs = some x) : ∃ k, cs = [.string k] :=
  let ⟨k, h, _⟩ := DataW.trod_string (by kernel_rfl) h; ⟨k, h⟩
set_option maxRecDepth 100000 in
theorem cells_sym {n : Nat} {cs : List Value} {x : DataW H × List MemPlace} (h : DataW.trod enc Try.prog W 0 (fun _ => true) true n 25 cs = some x) : ∃ s : SymD, cs = s.cells := by
  have hl := cells_length (sz := 3) (by kernel_rfl) h (by kernel_rfl)
  obtain ⟨m0, y0, f0⟩ := cells_field (i := 0) (ft := 3) (off := 0) (sz := 1) (by kernel_rfl) h (by kernel_rfl) (by kernel_rfl)
  obtain ⟨m1, y1, f1⟩ := cells_field (i := 1) (ft := 9) (off := 1) (sz := 1) (by kernel_rfl) h (by kernel_rfl) (by kernel_rfl)
  obtain ⟨m2, y2, f2⟩ := cells_field (i := 2) (ft := 3) (off := 2) (sz := 1) (by kernel_rfl) h (by kernel_rfl) (by kernel_rfl)
  obtain ⟨k0, g0⟩ := cells_int f0
  obtain ⟨k1, g1⟩ := cells_string f1
  obtain ⟨k2, g2⟩ := cells_int f2
  match cs, hl with
  | [c0, c1, c2], _ =>
    simp at g0 g1 g2
    subst g0; subst g1; subst g2
    exact ⟨⟨k0, k1, k2⟩, rfl⟩
set_option maxRecDepth 100000 in
theorem cells_elem {n : Nat} {cs : List Value} {x : DataW H × List MemPlace} (h : DataW.trod enc Try.prog W 0 (fun _ => true) true n 35 cs = some x) : ∃ e : ElemD, cs = e.val.cells.toList := by
  have hl := cells_length (sz := 12) (by kernel_rfl) h (by kernel_rfl)
  obtain ⟨m0, y0, f0⟩ := cells_field (i := 0) (ft := 25) (off := 0) (sz := 3) (by kernel_rfl) h (by kernel_rfl) (by kernel_rfl)
  obtain ⟨m1, y1, f1⟩ := cells_field (i := 1) (ft := 25) (off := 3) (sz := 3) (by kernel_rfl) h (by kernel_rfl) (by kernel_rfl)
  obtain ⟨m2, y2, f2⟩ := cells_field (i := 2) (ft := 25) (off := 6) (sz := 3) (by kernel_rfl) h (by kernel_rfl) (by kernel_rfl)
  obtain ⟨m3, y3, f3⟩ := cells_field (i := 3) (ft := 4) (off := 9) (sz := 1) (by kernel_rfl) h (by kernel_rfl) (by kernel_rfl)
  obtain ⟨m4, y4, f4⟩ := cells_field (i := 4) (ft := 4) (off := 10) (sz := 1) (by kernel_rfl) h (by kernel_rfl) (by kernel_rfl)
  obtain ⟨m5, y5, f5⟩ := cells_field (i := 5) (ft := 3) (off := 11) (sz := 1) (by kernel_rfl) h (by kernel_rfl) (by kernel_rfl)
  obtain ⟨k0, g0⟩ := cells_sym f0
  obtain ⟨k1, g1⟩ := cells_sym f1
  obtain ⟨k2, g2⟩ := cells_sym f2
  obtain ⟨k3, g3⟩ := cells_bool f3
  obtain ⟨k4, g4⟩ := cells_bool f4
  obtain ⟨k5, g5⟩ := cells_int f5
  match cs, hl with
  | [c0, c1, c2, c3, c4, c5, c6, c7, c8, c9, c10, c11], _ =>
    simp [SymD.cells] at g0 g1 g2 g3 g4 g5
    obtain ⟨rfl, rfl, rfl⟩ := g0
    obtain ⟨rfl, rfl, rfl⟩ := g1
    obtain ⟨rfl, rfl, rfl⟩ := g2
    subst g3; subst g4; subst g5
    exact ⟨⟨k0, k1, k2, k3, k4, k5⟩, rfl⟩
set_option maxRecDepth 100000 in
theorem cells_encI {n : Nat} {cs : List Value} {x : DataW H × List MemPlace} (h : DataW.trod enc Try.prog W 0 (fun _ => true) true n 3 cs = some x) : ∃ k : Int, cs = encI k := cells_int h
set_option maxRecDepth 100000 in
theorem cells_encE {n : Nat} {cs : List Value} {x : DataW H × List MemPlace} (h : DataW.trod enc Try.prog W 0 (fun _ => true) true n 35 cs = some x) : ∃ e : ElemD, cs = encE e := cells_elem h
set_option maxRecDepth 100000 in
theorem open_elem {v : Value} {d : DataW H} {ps : List MemPlace} {b0 : Nat} (hv : Value.okWide Try.prog W .any b0 35 v) (h : DataW.Trod enc Try.prog W 0 (fun _ => true) true 35 v d ps) : ∃ e : ElemD, v = e.val := by
  obtain ⟨cs, rfl, _⟩ := okWide_struct (fs := Try.prog.fieldsOf 35) (by kernel_rfl) hv
  obtain ⟨n, hn⟩ := h
  obtain ⟨e, he⟩ := cells_elem hn
  exact ⟨e, by rw [show cs = e.val.cells from Array.toList_inj.1 he]; rfl⟩
set_option maxRecDepth 100000 in
theorem open_sym {v : Value} {d : DataW H} {ps : List MemPlace} {b0 : Nat} (hv : Value.okWide Try.prog W .any b0 25 v) (h : DataW.Trod enc Try.prog W 0 (fun _ => true) true 25 v d ps) : ∃ s : SymD, v = s.val := by
  obtain ⟨cs, rfl, _⟩ := okWide_struct (fs := Try.prog.fieldsOf 25) (by kernel_rfl) hv
  obtain ⟨n, hn⟩ := h
  obtain ⟨e, he⟩ := cells_sym hn
  exact ⟨e, by rw [show cs = e.val.cells from Array.toList_inj.1 he]; rfl⟩
end
end Go.Proofs.Ytfakoemkapankaa
/- Owned rows: stores into them, a shorter view of them, new ones; ordered sets as one assertion. Plain library, no program in sight. -/
namespace Go.Sl
open Go Go.Proofs Go.RowKit

section
variable {α : Type} {enc : α → List Value} {sz : Nat}
theorem flat_take [e : EncLen enc sz] : ∀ (ys : List α) (i : Nat), (ys.flatMap enc).take (i * sz) = (ys.take i).flatMap enc
  | [], i => by simp
  | y :: ys, 0 => by simp
  | y :: ys, i + 1 => by
    have h1 : (enc y).length = sz := e.len y
    have : (i + 1) * sz = (enc y).length + i * sz := by rw [h1, Nat.add_mul]; omega
    rw [List.flatMap_cons, this, List.take_length_add_append, flat_take ys i]
    simp
theorem flat_drop [e : EncLen enc sz] : ∀ (ys : List α) (i : Nat), (ys.flatMap enc).drop (i * sz) = (ys.drop i).flatMap enc
  | [], i => by simp
  | y :: ys, 0 => by simp
  | y :: ys, i + 1 => by
    have h1 : (enc y).length = sz := e.len y
    have : (i + 1) * sz = (enc y).length + i * sz := by rw [h1, Nat.add_mul]; omega
    rw [List.flatMap_cons, this, List.drop_length_add_append, flat_drop ys i]
    simp
theorem flat_set [e : EncLen enc sz] (ys : List α) (i : Nat) (z : α) (hi : i < ys.length) : (ys.set i z).flatMap enc = (ys.flatMap enc).take (i * sz) ++ enc z ++ (ys.flatMap enc).drop ((i + 1) * sz) := by
  rw [flat_take, flat_drop, List.set_eq_take_append_cons_drop, if_pos hi]
  simp [List.flatMap_append]
end

section
variable {w0 : World} {A : SProp} {L : List SProp} {ro : Option Nat} {P : Program} {Q : Exit → Act → World → Prop} {all : Array Oper} {os : List Oper} {n : Nat} {ρ : Nat → Value} {ds : List Nat}
variable {d : Option Tmp} {ty : TypeId} {pos : String} {af : Array Edge} {x y : Operand}
variable {α : Type} {enc : α → List Value} {sz : Nat} {xs : List α} {S : Option Addr}
/-- A store of a whole element into an owned row. -/
theorem o_storeE {t e : TypeId} {sz' c i : Nat} {v : Value} {z : α} {M : List SProp} (hx : ev n ρ x = padr S (i * sz)) (hy : ev n ρ y = v) [tk : Take1 L (osl e enc sz S c xs) M] [el : EncLen enc sz] [ts : TySz P t sz'] (hs : sz' = sz) (hv : v.cells.toList = enc z) (hi : i < xs.length)
    (h : G w0 A (osl e enc sz S c (xs.set i z) :: M) (fun w => runL ro P all Q os (act n (updo ρ d undef) ds) w)) :
    G w0 A L (fun w => runL ro P all Q ({ dst := d, op := .store t x y, type := ty, pos := pos, after := af, guard := none } :: os) (act n ρ ds) w) := by
  subst hs
  refine o_run rfl fun w hw hh => ?_
  refine ⟨fun _ _ => trivial, ?_⟩
  rw [Oper.semAt_eq _ _ _ (by intro c e; cases e), act_eval]
  have hh1 : holds (star (osl e enc sz' S c xs) (star A (sl M))) w := (hh.ent ((Ent.refl A).star (sl_perm tk.perm))).ent (Ent.swap _ _ _)
  have hopen : ∃ g cur, S = some ⟨g, 0, none⟩ ∧ (xs.length ≤ c ∧ c ≤ maxLen ∧ cur.size = c * sz' ∧ cur.toList.take (xs.length * sz') = xs.flatMap enc) ∧ holds (star (blk g (.cells cur e (0, 0))) (star A (sl M))) w := by
    obtain ⟨B, k, dd, l, m, k1, k2, d12, l1, l2, hx, hy⟩ := hh1
    rcases hx with ⟨_, rfl, _⟩ | ⟨g, cur, hA, hg, hr⟩
    · simp at hi
    · exact ⟨g, cur, hA, hr, B, k, dd, l, m, k1, k2, d12, l1, l2, hg, hy⟩
  obtain ⟨g, cur, rfl, ⟨h1, h2, h3, h4⟩, hh2⟩ := hopen
  have hbw : w.heap[g]? = some (.cells cur e (0, 0)) := (Sees.left (sees_blk g _)) w hh2
  have hvl : v.cells.toList.length = sz' := by rw [hv]; exact el.len z
  have hvs : v.cells.size = sz' := by rw [← Array.length_toList]; exact hvl
  have hle : i * sz' + sz' ≤ cur.size := by
    rw [h3]
    calc i * sz' + sz' = (i + 1) * sz' := by rw [Nat.add_mul]; omega
      _ ≤ c * sz' := Nat.mul_le_mul_right _ (by omega)
  have hst := run_storeCells_at (P := P) g (i * sz') e v.cells.toList 0 cur w hbw (by rw [hvl]; simpa using hle) (by rw [hv]; exact el.one z)
  have hpa : padr (some ⟨g, 0, none⟩) (i * sz') = .pointer (some ⟨g, i * sz', none⟩) := by rw [padr_some]; simp
  have hrun : (execOp (ev n ρ) { dst := d, op := .store t x y, type := ty, pos := pos, after := af, guard := none }).run P w = .ok .skip (w.setRow g (sto cur (i * sz') v.cells)) := by
    simp only [execOp, hx, hy, hpa]
    simp [Instr.storeAt, Instr.sureAddr, storeVar, ts.size, hvs, hst, sto]
  rw [hrun]
  show runL ro P all Q os ((act n ρ ds).put d undef) _
  rw [act_put]
  refine h _ (hw.trans (std_setRow _ _ _)) ?_
  have hh3 := hh2.update (o' := .cells (sto cur (i * sz') v.cells) e (0, 0)) (setRow_heap w g cur _ e _ hbw) (fun j hj => hp_setRow_ne w _ hj)
  have hsize : (sto cur (i * sz') v.cells).toList = cur.toList.take (i * sz') ++ enc z ++ cur.toList.drop ((i + 1) * sz') := by
    simp only [sto, hvl]
    rw [hv, show (i + 1) * sz' = i * sz' + sz' by rw [Nat.add_mul]; omega]
  have hcl : cur.toList.length = c * sz' := by rw [Array.length_toList, h3]
  refine (hh3.ent (Ent.star ?_ (Ent.refl _))).ent (Ent.swap _ _ _)
  intro B k hk
  refine .inr ⟨g, _, rfl, hk, by simpa using h1, h2, ?_, ?_⟩
  · rw [← Array.length_toList, hsize]
    have := el.len z
    simp only [List.length_append, List.length_take, List.length_drop, hcl, this]
    have h5 : (i + 1) * sz' ≤ c * sz' := Nat.mul_le_mul_right _ (by omega)
    have h6 : (i + 1) * sz' = i * sz' + sz' := by rw [Nat.add_mul]; omega
    omega
  · rw [hsize, List.length_set, flat_set xs i z hi, ← h4]
    have h5 : (i + 1) * sz' ≤ xs.length * sz' := Nat.mul_le_mul_right _ hi
    have h6 : (i + 1) * sz' = i * sz' + sz' := by rw [Nat.add_mul]; omega
    have h7 : xs.length * sz' ≤ cur.toList.length := by rw [hcl]; exact Nat.mul_le_mul_right _ h1
    have hl1 : (cur.toList.take (i * sz') ++ enc z).length = (i + 1) * sz' := by
      simp only [List.length_append, List.length_take, el.len]; omega
    rw [List.take_take, Nat.min_eq_left (by omega), List.drop_take]
    conv => lhs; rw [show xs.length * sz' = (cur.toList.take (i * sz') ++ enc z).length + (xs.length * sz' - (i + 1) * sz') by rw [hl1]; omega]
    rw [List.take_length_add_append]
theorem osl_take {e : TypeId} [el : EncLen enc sz] {c k : Nat} (hk : k ≤ xs.length) : Ent (osl e enc sz S c xs) (osl e enc sz S c (xs.take k)) := by
  rintro B h (⟨hA, rfl, hc⟩ | ⟨g, cur, hA, hg, h1, h2, h3, h4⟩)
  · exact .inl ⟨hA, by simp, hc⟩
  · refine .inr ⟨g, cur, hA, hg, by simp; omega, h2, h3, ?_⟩
    rw [List.length_take, Nat.min_eq_left hk, ← flat_take, ← h4, List.take_take, Nat.min_eq_left (Nat.mul_le_mul_right _ hk)]
/-- An owned row grows no shorter than its room. -/
theorem osl_room {e : TypeId} {c : Nat} {C : SProp} {w : World} (h : holds (star (osl e enc sz S c xs) C) w) : xs.length ≤ c := by
  obtain ⟨_, _, _, _, _, _, _, _, _, _, x, _⟩ := h
  rcases x with ⟨_, rfl, rfl⟩ | ⟨_, _, _, _, h1, _⟩
  · exact Nat.le_refl _
  · exact h1
/-- 's[:k]' of an owned row. -/
theorem o_upto {t e : TypeId} {sz' c len k : Nat} {kd : IntKind} {m : Int} {M : List SProp} (hx : ev n ρ x = .slice S len c) (hy : ev n ρ y = .int kd m) (hm : m = (k : Int)) [tk : Take1 L (osl e enc sz S c xs) M] [el : EncLen enc sz] [st : SlTy P t e sz'] (hl : xs.length = len) (hk : k ≤ len)
    (h : G w0 A (osl e enc sz S c (xs.take k) :: M) (fun w => runL ro P all Q os (act n (updo ρ d (.slice S k c)) ds) w)) :
    G w0 A L (fun w => runL ro P all Q ({ dst := d, op := .slice t x none (some y) none, type := ty, pos := pos, after := af, guard := none } :: os) (act n ρ ds) w) := by
  subst hl hm
  have hh1 : ∀ w, holds (star A (sl L)) w → xs.length ≤ c := fun w hh => osl_room ((hh.ent ((Ent.refl A).star (sl_perm tk.perm))).ent (Ent.swap _ _ _))
  refine o_val (v := .slice S k c) rfl (by intro c e; cases e) (fun w hw hh => ?_) ?_
  · simp only [execOp]
    refine run_v ?_
    have hc := hh1 w hh
    have hkc : (k : Int) ≤ (c : Int) := by omega
    simp only [Option.map_none, Option.map_some, hx, hy]
    simp [Instr.sliceAt, Instr.slice, run_underlying st.ty, Instr.sliceBounds, Instr.sliceBound, asIntOf, st.size, hkc]
    have hkn : k ≤ c := by omega
    cases S <;> simp [Addr.add] <;> intro hck <;> exact absurd hck (by omega)
  · exact G.perm tk.perm (G.ent (L := osl e enc sz S c xs :: M) (L' := osl e enc sz S c (xs.take k) :: M) ((osl_take hk).star (Ent.refl _)) h)
theorem o_uptoR {t e : TypeId} {sz' c len k : Nat} {kd : IntKind} {m : Int} {M : List SProp} (hx : ev n ρ x = .slice S len c) (hy : ev n ρ y = .int kd m) (hm : m = (k : Int)) [tk : Take1 L (osl e enc sz S c xs) M] [st : SlTy P t e sz'] (hl : xs.length = len) (hk : k ≤ len)
    (h : G w0 A L (fun w => runL ro P all Q os (act n (updo ρ d (.slice S k c)) ds) w)) :
    G w0 A L (fun w => runL ro P all Q ({ dst := d, op := .slice t x none (some y) none, type := ty, pos := pos, after := af, guard := none } :: os) (act n ρ ds) w) := by
  subst hl hm
  have hh1 : ∀ w, holds (star A (sl L)) w → xs.length ≤ c := fun w hh => osl_room ((hh.ent ((Ent.refl A).star (sl_perm tk.perm))).ent (Ent.swap _ _ _))
  refine o_val (v := .slice S k c) rfl (by intro c e; cases e) (fun w hw hh => ?_) h
  simp only [execOp]
  refine run_v ?_
  have hc := hh1 w hh
  have hkc : (k : Int) ≤ (c : Int) := by omega
  simp only [Option.map_none, Option.map_some, hx, hy]
  simp [Instr.sliceAt, Instr.slice, run_underlying st.ty, Instr.sliceBounds, Instr.sliceBound, asIntOf, st.size, hkc]
  have hkn : k ≤ c := by omega
  cases S <;> simp [Addr.add] <;> intro hck <;> exact absurd hck (by omega)
theorem G.shorten {e : TypeId} [el : EncLen enc sz] {c : Nat} (k : Nat) {M : List SProp} {Φ : World → Prop} [tk : Take1 L (osl e enc sz S c xs) M] (hk : k ≤ xs.length) (h : G w0 A (osl e enc sz S c (xs.take k) :: M) Φ) : G w0 A L Φ :=
  G.perm tk.perm (G.ent (L := osl e enc sz S c xs :: M) (L' := osl e enc sz S c (xs.take k) :: M) ((osl_take hk).star (Ent.refl _)) h)
/-- 'make([]T, 0, c)'. -/
theorem o_make0 {t e : TypeId} {s bytes c : Nat} {kl kc : IntKind} {m : Int} (hx : ev n ρ x = .int kl 0) (hy : ev n ρ y = .int kc m) (hm : m = (c : Int)) [at_ : ApTy P t e s bytes] [en : EncLen enc s] (hb : bytes * c ≤ 281474976710656) (hc : c ≤ maxLen)
    (h : ∀ S, G w0 A (osl e enc s S c ([] : List α) :: L) (fun w => runL ro P all Q os (act n (updo ρ d (.slice S 0 c)) ds) w)) :
    G w0 A L (fun w => runL ro P all Q ({ dst := d, op := .makeSlice t x y, type := ty, pos := pos, after := af, guard := none } :: os) (act n ρ ds) w) := by
  subst hm
  refine o_run rfl fun w hw hh => ?_
  refine ⟨fun _ _ => trivial, ?_⟩
  rw [Oper.semAt_eq _ _ _ (by intro c e; cases e), act_eval]
  obtain ⟨i, z, ht, hi, hz, h1, h2, h3⟩ := at_.ex
  obtain ⟨w', hrun, ho, hg⟩ := run_make_own (P := P) w 0 t e i z s ht hi hz h1 kl kc c (by rw [h2]; exact hb) hc (Nat.zero_le _)
  have hh1 : holds (star (osl e enc s none 0 ([] : List α)) (star A (sl L))) w := by
    obtain ⟨B, k, dd, l, m, x⟩ := hh
    exact ⟨B, k, dd, l, m, hnil, k, (Dj.nil _).symm, .nil _, .refl _, .inl ⟨rfl, rfl, rfl⟩, x⟩
  obtain ⟨S2, c3, he, hh2⟩ := hh1.grown (zs := ([] : List α)) ho (by simpa [Value.ownBlock] using hg) (.inr rfl)
  simp only [Value.slice.injEq, List.length_nil, true_and] at he
  obtain ⟨rfl, rfl⟩ := he
  have hex : (execOp (ev n ρ) { dst := d, op := .makeSlice t x y, type := ty, pos := pos, after := af, guard := none }).run P w = .ok (.value (.slice (some ⟨w.heap.size, 0, none⟩) 0 c)) w' := by
    simp only [execOp, hx, hy]
    simp [hrun]
  rw [hex]
  show runL ro P all Q os ((act n ρ ds).put d _) w'
  rw [act_put]
  exact h _ w' (hw.trans ⟨hg.os, hg.tape, hg.output, hg.size⟩) (hh2.ent (Ent.swap _ _ _))

/-- 'append' to an empty owned row. -/
theorem o_append0 {t e : TypeId} {s bytes c c2 len : Nat} {ys : List α} {S' : Option Addr} {tys : Array TypeId} {M : List SProp} (hx : ev n ρ x = .slice S 0 c) (hy : ev n ρ y = .slice S' len c2) (ht : tys = #[t, t]) [at_ : ApTy P t e s bytes] [en : EncLen enc sz] (hs : s = sz)
    [hr : HasRd L S' enc sz ys] (hlen : ys.length = len) [tk : Take1 L (osl e enc sz S c ([] : List α)) M] (hmax : ys.length ≤ maxLen) (hbytes : ys.length * bytes ≤ 140737488355328)
    (h : ∀ S2 c3, G w0 A (osl e enc sz S2 c3 ys :: M) (fun w => runL ro P all Q os (act n (updo ρ d (.slice S2 len c3)) ds) w)) :
    G w0 A L (fun w => runL ro P all Q ({ dst := d, op := .call { callee := .builtin .append, args := #[x, y], argTypes := tys }, type := ty, pos := pos, after := af, guard := none } :: os) (act n ρ ds) w) :=
  o_append (xs := ([] : List α)) hx hy ht hs hlen (fun _ => .inr trivial) (by simpa using hmax) (by simpa using hbytes) fun S2 c3 => by
    have := h S2 c3
    rw [← hlen] at this
    simpa using this
/-- A function held against nil. -/
theorem o_fnil {xt yt : TypeId} {fn : Fn} {a c : Array Value} (hx : ev n ρ x = .func fn a c) (hg : ∀ w, (eqGuard .eql xt x (.const .nilFunc) (.func fn a c) .nilFunc).run P w = .ok () w) (hr : ∀ w, (binOp .eql xt (.func fn a c) .nilFunc).run P w = .ok (.bool false) w)
    (h : G w0 A L (fun w => runL ro P all Q os (act n (updo ρ d (.bool false)) ds) w)) :
    G w0 A L (fun w => runL ro P all Q ({ dst := d, op := .binOp .eql xt x (.const .nilFunc) yt, type := ty, pos := pos, after := af, guard := none } :: os) (act n ρ ds) w) :=
  o_val rfl (by intro c e; cases e) (fun w _ _ => run_bin (by rw [hx]; exact hg w) (by rw [hx]; exact hr w)) h
/-- What a block holds, written otherwise. -/
theorem G.norm (b : Nat) (cs' : Array Value) {e : TypeId} {cs : Array Value} {f : Obj → List SProp} {Φ : World → Prop} [rb : RepBlk L b (.cells cs e (0, 0)) f] (hc : cs = cs') (h : G w0 A (f (.cells cs' e (0, 0))) Φ) : G w0 A L Φ := by
  subst hc
  obtain ⟨M, p, q⟩ := rb.perm
  exact G.perm (p.trans (q _).symm) h

/-! ### Ordered sets -/
/-- A row, owned, or seen by somebody: then it stays for ever. -/
def row (e : TypeId) (enc : α → List Value) (sz : Nat) (b : Bool) (S : Option Addr) (c : Nat) (ys : List α) : SProp := cond b (psl enc sz S ys) (osl e enc sz S c ys)
instance {e : TypeId} {b : Bool} {c : Nat} {ys : List α} [EncLen enc sz] : HasRd (row e enc sz b S c ys :: L) S enc sz ys := ⟨by
  cases b
  · exact (HasRd.ohead (L := L) (A := S) (e := e) (c := c) (ys := ys)).sees
  · exact (HasRd.head (L := L) (A := S) (ys := ys)).sees⟩
theorem G.see {e : TypeId} {b : Bool} {c : Nat} {ys : List α} {Φ : World → Prop} [EncLen enc sz] (h : G w0 A (psl enc sz S ys :: L) Φ) : G w0 A (row e enc sz b S c ys :: L) Φ := by
  cases b
  · exact G.freeze_slice h
  · exact h
theorem G.pu_in {q : Prop} {Φ : World → Prop} (hq : q) (h : G w0 A (Sl.pu q :: L) Φ) : G w0 A L Φ :=
  G.ent (L := L) (L' := Sl.pu q :: L) (show Ent (sl L) (star (Sl.pu q) (sl L)) from fun _ k x => ⟨hnil, k, (Dj.nil _).symm, .nil _, .refl _, hq, x⟩) h
theorem Take.setback {X Y : SProp} {L M : List SProp} [tk : Take1 L X M] : Take (X :: Y :: M) (Y :: L) [] := ⟨by rw [List.append_nil]; exact (List.Perm.swap _ _ _).trans (tk.perm.symm.cons Y)⟩
theorem G.see1 {e : TypeId} {b : Bool} {c : Nat} {ys : List α} {Φ : World → Prop} [EncLen enc sz] (h : G w0 A (psl enc sz S ys :: L) Φ) : G w0 A ([row e enc sz b S c ys] ++ L) Φ := G.see h
/-- A set at p whose members are these: its list, and whether the list is seen. -/
def SetP (st e : TypeId) (enc : α → List Value) (sz : Nat) (p : Nat) (ys : List α) : SProp :=
  ex fun r : Option Addr × Nat × Bool => sl [cellsB p #[.slice r.1 ys.length r.2.1, .bool r.2.2] st, row e enc sz r.2.2 r.1 r.2.1 ys]
variable {st e : TypeId} {p : Nat} {ys : List α} {M : List SProp} {Φ : World → Prop}
theorem SetP.open [tk : Take1 L (SetP st e enc sz p ys) M] (h : ∀ S c b, G w0 A (cellsB p #[.slice S ys.length c, .bool b] st :: row e enc sz b S c ys :: M) Φ) : G w0 A L Φ :=
  G.perm tk.perm (G.ex fun ⟨S, c, b⟩ => G.open_sl (h S c b))
theorem SetP.shut {S : Option Addr} {c : Nat} {b : Bool} {len : Nat} (hl : ys.length = len) [tk : Take L [cellsB p #[.slice S len c, .bool b] st, row e enc sz b S c ys] M] (h : G w0 A (SetP st e enc sz p ys :: M) Φ) : G w0 A L Φ := by
  subst hl
  refine G.perm tk.perm (G.ent ?_ h)
  refine (sl_append_to _ M).trans (Ent.star ?_ (Ent.refl _))
  exact fun B k x => ⟨(S, c, b), x⟩
end
end Go.Sl
/- Comparisons as linear orders, plainly; and the program's comparisons. -/
namespace Go.Proofs.Ytfakoemkapankaa
open Go Go.Sl
attribute [local irreducible] Code.wpIn roundPost bodyPostM runL Ret Meets Begin

/-- A comparison that orders. -/
structure LinCmp {α : Type} (f : α → α → Int) : Prop where
  swap : ∀ a b, f b a = - f a b
  trans : ∀ a b c, f a b < 0 → f b c < 0 → f a c < 0
  eqv : ∀ a b c, f a b = 0 → f a c = f b c
theorem LinCmp.refl {α : Type} {f : α → α → Int} (h : LinCmp f) (a : α) : f a a = 0 := by have := h.swap a a; omega
theorem LinCmp.eqv' {α : Type} {f : α → α → Int} (h : LinCmp f) (a b c : α) (e : f a b = 0) : f c a = f c b := by
  rw [h.swap a c, h.swap b c, h.eqv a b c e]
theorem LinCmp.pull {α β : Type} {f : α → α → Int} (h : LinCmp f) (g : β → α) : LinCmp (fun x y => f (g x) (g y)) :=
  ⟨fun a b => h.swap _ _, fun a b c => h.trans _ _ _, fun a b c => h.eqv _ _ _⟩
def lex {α : Type} (f g : α → α → Int) (a b : α) : Int := if f a b = 0 then g a b else f a b
theorem LinCmp.lex {α : Type} {f g : α → α → Int} (hf : LinCmp f) (hg : LinCmp g) : LinCmp (lex f g) := by
  refine ⟨fun a b => ?_, fun a b c h1 h2 => ?_, fun a b c h => ?_⟩
  · unfold Proofs.Ytfakoemkapankaa.lex
    rw [hf.swap a b, hg.swap a b]
    by_cases e : f a b = 0
    · simp [e]
    · rw [if_neg e, if_neg (by omega)]
  · unfold Proofs.Ytfakoemkapankaa.lex at *
    by_cases e1 : f a b = 0
    · rw [if_pos e1] at h1
      rw [hf.eqv a b c e1]
      by_cases e2 : f b c = 0
      · rw [if_pos e2] at h2 ⊢; exact hg.trans a b c h1 h2
      · rw [if_neg e2] at h2 ⊢; exact h2
    · rw [if_neg e1] at h1
      by_cases e2 : f b c = 0
      · have : f a c = f a b := (hf.eqv' b c a e2).symm
        rw [this, if_neg e1]; exact h1
      · rw [if_neg e2] at h2
        have := hf.trans a b c h1 h2
        rw [if_neg (by omega)]; exact this
  · unfold Proofs.Ytfakoemkapankaa.lex at *
    by_cases e1 : f a b = 0
    · rw [if_pos e1] at h
      rw [hf.eqv a b c e1, hg.eqv a b c h]
    · rw [if_neg e1] at h; exact absurd h e1
def cmpI (a b : Int) : Int := if a < b then -1 else if b < a then 1 else 0
theorem linI : LinCmp cmpI := by
  refine ⟨fun a b => ?_, fun a b c => ?_, fun a b c => ?_⟩ <;> unfold cmpI <;> (repeat' split) <;> omega
theorem less_cons (x y : UInt8) (a b : List UInt8) : Op.bytesLess (x :: a) (y :: b) = true ↔ x.toNat < y.toNat ∨ (x.toNat = y.toNat ∧ Op.bytesLess a b = true) := by
  simp only [Op.bytesLess, Bool.or_eq_true, Bool.and_eq_true, decide_eq_true_eq, beq_iff_eq, UInt8.lt_iff_toNat_lt, ← UInt8.toNat_inj]
theorem less_asym : ∀ a b : List UInt8, Op.bytesLess a b = true → ¬ Op.bytesLess b a = true
  | [], [], h => by simp [Op.bytesLess] at h
  | [], _ :: _, _ => by simp [Op.bytesLess]
  | _ :: _, [], h => by simp [Op.bytesLess] at h
  | x :: a, y :: b, h => by
    rw [less_cons] at h ⊢
    have ih := less_asym a b
    rintro (h2 | ⟨h2, h3⟩)
    · rcases h with h | ⟨h, _⟩ <;> omega
    · rcases h with h | ⟨_, h⟩
      · omega
      · exact ih h h3
theorem less_trans : ∀ a b c : List UInt8, Op.bytesLess a b = true → Op.bytesLess b c = true → Op.bytesLess a c = true
  | _, _, [], _, h => by cases ‹List UInt8› <;> simp [Op.bytesLess] at h
  | _, [], _ :: _, h, _ => by cases ‹List UInt8› <;> simp [Op.bytesLess] at h
  | [], _ :: _, _ :: _, _, _ => by simp [Op.bytesLess]
  | x :: a, y :: b, z :: c, h1, h2 => by
    rw [less_cons] at h1 h2 ⊢
    rcases h1 with h1 | ⟨h1, h1'⟩ <;> rcases h2 with h2 | ⟨h2, h2'⟩
    · left; omega
    · left; omega
    · left; omega
    · right; exact ⟨by omega, less_trans a b c h1' h2'⟩
theorem less_total : ∀ a b : List UInt8, ¬ Op.bytesLess a b = true → ¬ Op.bytesLess b a = true → a = b
  | [], [], _, _ => rfl
  | [], _ :: _, h, _ => by simp [Op.bytesLess] at h
  | _ :: _, [], _, h => by simp [Op.bytesLess] at h
  | x :: a, y :: b, h1, h2 => by
    rw [less_cons] at h1 h2
    have hxy : x.toNat = y.toNat := by
      have : ¬ x.toNat < y.toNat := fun h => h1 (.inl h)
      have : ¬ y.toNat < x.toNat := fun h => h2 (.inl h)
      omega
    rw [UInt8.toNat_inj.1 hxy, less_total a b (fun h => h1 (.inr ⟨hxy, h⟩)) (fun h => h2 (.inr ⟨hxy.symm, h⟩))]
def cmpS (a b : ByteArray) : Int := if Op.bytesLess a.toList b.toList = true then -1 else if Op.bytesLess b.toList a.toList = true then 1 else 0
theorem cmpS_zero {a b : ByteArray} (h : cmpS a b = 0) : a = b := by
  unfold cmpS at h
  by_cases h1 : Op.bytesLess a.toList b.toList = true
  · rw [if_pos h1] at h; omega
  · rw [if_neg h1] at h
    by_cases h2 : Op.bytesLess b.toList a.toList = true
    · rw [if_pos h2] at h; omega
    · exact (toList_inj a b).1 (less_total _ _ h1 h2)
theorem linS : LinCmp cmpS := by
  refine ⟨fun a b => ?_, fun a b c h1 h2 => ?_, fun a b c h => by rw [cmpS_zero h]⟩
  · unfold cmpS
    have := less_asym a.toList b.toList
    by_cases h1 : Op.bytesLess a.toList b.toList = true
    · simp [h1, this h1]
    · by_cases h2 : Op.bytesLess b.toList a.toList = true <;> simp [h1, h2]
  · have key : ∀ x y, cmpS x y < 0 ↔ Op.bytesLess x.toList y.toList = true := fun x y => by
      unfold cmpS
      by_cases h1 : Op.bytesLess x.toList y.toList = true
      · simp [h1]
      · by_cases h2 : Op.bytesLess y.toList x.toList = true <;> simp [h1, h2]
    rw [key] at h1 h2 ⊢
    exact less_trans _ _ _ h1 h2
def SymD.cmp : SymD → SymD → Int := lex (fun a b => cmpI a.kind b.kind) (lex (fun a b => cmpS a.text b.text) (fun a b => cmpI a.n b.n))
theorem linSym : LinCmp SymD.cmp := (linI.pull SymD.kind).lex ((linS.pull SymD.text).lex (linI.pull SymD.n))
theorem cmpI_zero {a b : Int} (h : cmpI a b = 0) : a = b := by unfold cmpI at h; (repeat' split at h) <;> omega
theorem SymD.cmp_zero {a b : SymD} (h : a.cmp b = 0) : a = b := by
  obtain ⟨k, t, n⟩ := a
  obtain ⟨k', t', n'⟩ := b
  simp only [SymD.cmp, lex] at h
  by_cases h1 : cmpI k k' = 0
  · rw [if_pos h1] at h
    by_cases h2 : cmpS t t' = 0
    · rw [if_pos h2] at h
      rw [cmpI_zero h1, cmpS_zero h2, cmpI_zero h]
    · rw [if_neg h2] at h; exact absurd h h2
  · rw [if_neg h1] at h; exact absurd h h1

/-! ### The program's comparisons -/
theorem o_sgtr {w0 : World} {A : SProp} {L : List SProp} {ro : Option Nat} {P : Program} {Q : Exit → Act → World → Prop} {all : Array Oper} {os : List Oper} {n : Nat} {ρ : Nat → Value} {ds : List Nat} {d : Option Tmp} {ty xt yt : TypeId} {pos : String} {af : Array Edge} {x y : Operand}
    {s t : ByteArray} (hx : ev n ρ x = .string s) (hy : ev n ρ y = .string t) (h : G w0 A L (fun w => runL ro P all Q os (act n (updo ρ d (.bool (Op.bytesLess t.toList s.toList))) ds) w)) :
    G w0 A L (fun w => runL ro P all Q ({ dst := d, op := .binOp .gtr xt x y yt, type := ty, pos := pos, after := af, guard := none } :: os) (act n ρ ds) w) := by
  refine o_val (v := .bool (Op.bytesLess t.toList s.toList)) rfl (by intro c e; cases e) (fun w _ _ => run_bin (by rw [hx, hy]; rfl) ?_) h
  rw [hx, hy]
  have : Op.bytesLess t.toList s.toList = (!(Op.bytesLess s.toList t.toList || (s.toList == t.toList))) := by
    cases h1 : Op.bytesLess s.toList t.toList
    · cases h2 : Op.bytesLess t.toList s.toList
      · have := less_total s.toList t.toList (by simp [h1]) (by simp [h2]); simp [this]
      · have : s.toList ≠ t.toList := fun e => by rw [e] at h2; exact less_asym _ _ h2 h2
        simp [this]
    · have := less_asym _ _ h1
      simp only [Bool.true_or, Bool.not_true]
      simpa using this
  rw [this]
  rfl
theorem isNaNI_spec (a : Int) : Ctr Try.prog 257 [.int .i64 a] [] (fun v M => v = .bool false ∧ M = []) := by
  refine spec_of Try.func257 rfl Try.ntmps257 rfl fun w0 F => ?_
  repeat (first | refine g_endt ?_ | refine g_end ?_ | refine g_then ?_ | refine g_in_normal ?_ | refine g_then_ret ?_ | refine g_in_ret ?_ | refine g_then_exit ?_ | refine g_in_exit rfl ?_ | refine g_in_exit_ne (by decide) ?_ | refine g_seq ?_ | refine g_region ?_ | refine g_block ?_ | refine g_ret ?_ | refine g_return_n ?_ | refine g_exit ?_ | refine g_skip ?_)
  refine o_assign ?_
  first | refine g_endt ?_ | refine g_end ?_
  repeat (first | refine g_endt ?_ | refine g_end ?_ | refine g_then ?_ | refine g_in_normal ?_ | refine g_then_ret ?_ | refine g_in_ret ?_ | refine g_then_exit ?_ | refine g_in_exit rfl ?_ | refine g_in_exit_ne (by decide) ?_ | refine g_seq ?_ | refine g_region ?_ | refine g_block ?_ | refine g_ret ?_ | refine g_return_n ?_ | refine g_exit ?_ | refine g_skip ?_)
  refine o_move ?_
  refine o_move ?_
  refine o_neq rfl rfl ?_
  refine o_assign ?_
  first | refine g_endt ?_ | refine g_end ?_
  repeat (first | refine g_endt ?_ | refine g_end ?_ | refine g_then ?_ | refine g_in_normal ?_ | refine g_then_ret ?_ | refine g_in_ret ?_ | refine g_then_exit ?_ | refine g_in_exit rfl ?_ | refine g_in_exit_ne (by decide) ?_ | refine g_seq ?_ | refine g_region ?_ | refine g_block ?_ | refine g_ret ?_ | refine g_return_n ?_ | refine g_exit ?_ | refine g_skip ?_)
  exact ret1 rfl (resT (v := .bool (a != a)) rfl) ⟨by simp, rfl⟩
theorem isNaNS_spec (a : ByteArray) : Ctr Try.prog 258 [.string a] [] (fun v M => v = .bool false ∧ M = []) := by
  refine spec_of Try.func258 rfl Try.ntmps258 rfl fun w0 F => ?_
  repeat (first | refine g_endt ?_ | refine g_end ?_ | refine g_then ?_ | refine g_in_normal ?_ | refine g_then_ret ?_ | refine g_in_ret ?_ | refine g_then_exit ?_ | refine g_in_exit rfl ?_ | refine g_in_exit_ne (by decide) ?_ | refine g_seq ?_ | refine g_region ?_ | refine g_block ?_ | refine g_ret ?_ | refine g_return_n ?_ | refine g_exit ?_ | refine g_skip ?_)
  refine o_assign ?_
  first | refine g_endt ?_ | refine g_end ?_
  repeat (first | refine g_endt ?_ | refine g_end ?_ | refine g_then ?_ | refine g_in_normal ?_ | refine g_then_ret ?_ | refine g_in_ret ?_ | refine g_then_exit ?_ | refine g_in_exit rfl ?_ | refine g_in_exit_ne (by decide) ?_ | refine g_seq ?_ | refine g_region ?_ | refine g_block ?_ | refine g_ret ?_ | refine g_return_n ?_ | refine g_exit ?_ | refine g_skip ?_)
  refine o_move ?_
  refine o_move ?_
  refine o_sneq rfl rfl ?_
  refine o_assign ?_
  first | refine g_endt ?_ | refine g_end ?_
  repeat (first | refine g_endt ?_ | refine g_end ?_ | refine g_then ?_ | refine g_in_normal ?_ | refine g_then_ret ?_ | refine g_in_ret ?_ | refine g_then_exit ?_ | refine g_in_exit rfl ?_ | refine g_in_exit_ne (by decide) ?_ | refine g_seq ?_ | refine g_region ?_ | refine g_block ?_ | refine g_ret ?_ | refine g_return_n ?_ | refine g_exit ?_ | refine g_skip ?_)
  exact ret1 rfl (resT (v := .bool (!(a.toList == a.toList))) rfl) ⟨by simp, rfl⟩
theorem CompareI_spec (a b : Int) : Ctr Try.prog 255 [.int .i64 a, .int .i64 b] [] (fun v M => v = .int .i64 (cmpI a b) ∧ M = []) := by
  refine spec_of Try.func255 rfl Try.ntmps255 rfl fun w0 F => ?_
  repeat (first | refine g_endt ?_ | refine g_end ?_ | refine g_then ?_ | refine g_in_normal ?_ | refine g_then_ret ?_ | refine g_in_ret ?_ | refine g_then_exit ?_ | refine g_in_exit rfl ?_ | refine g_in_exit_ne (by decide) ?_ | refine g_seq ?_ | refine g_region ?_ | refine g_block ?_ | refine g_ret ?_ | refine g_return_n ?_ | refine g_exit ?_ | refine g_skip ?_)
  refine o_assign ?_
  first | refine g_endt ?_ | refine g_end ?_
  repeat (first | refine g_endt ?_ | refine g_end ?_ | refine g_then ?_ | refine g_in_normal ?_ | refine g_then_ret ?_ | refine g_in_ret ?_ | refine g_then_exit ?_ | refine g_in_exit rfl ?_ | refine g_in_exit_ne (by decide) ?_ | refine g_seq ?_ | refine g_region ?_ | refine g_block ?_ | refine g_ret ?_ | refine g_return_n ?_ | refine g_exit ?_ | refine g_skip ?_)
  refine o_move ?_
  refine o_call (isNaNI_spec a) rfl rfl ?_
  rintro _ _ ⟨rfl, rfl⟩
  refine o_assign ?_
  first | refine g_endt ?_ | refine g_end ?_
  repeat (first | refine g_endt ?_ | refine g_end ?_ | refine g_then ?_ | refine g_in_normal ?_ | refine g_then_ret ?_ | refine g_in_ret ?_ | refine g_then_exit ?_ | refine g_in_exit rfl ?_ | refine g_in_exit_ne (by decide) ?_ | refine g_seq ?_ | refine g_region ?_ | refine g_block ?_ | refine g_ret ?_ | refine g_return_n ?_ | refine g_exit ?_ | refine g_skip ?_)
  refine o_move ?_
  refine o_call (isNaNI_spec b) rfl rfl ?_
  rintro _ _ ⟨rfl, rfl⟩
  refine o_assign ?_
  first | refine g_endt ?_ | refine g_end ?_
  repeat (first | refine g_endt ?_ | refine g_end ?_ | refine g_then ?_ | refine g_in_normal ?_ | refine g_then_ret ?_ | refine g_in_ret ?_ | refine g_then_exit ?_ | refine g_in_exit rfl ?_ | refine g_in_exit_ne (by decide) ?_ | refine g_seq ?_ | refine g_region ?_ | refine g_block ?_ | refine g_ret ?_ | refine g_return_n ?_ | refine g_exit ?_ | refine g_skip ?_)
  refine o_move ?_
  first | refine g_endt ?_ | refine g_end ?_
  first | refine g_seq (g_cond_f rfl (rfl) ?_) | refine g_cond_f rfl (rfl) ?_
  repeat (first | refine g_endt ?_ | refine g_end ?_ | refine g_then ?_ | refine g_in_normal ?_ | refine g_then_ret ?_ | refine g_in_ret ?_ | refine g_then_exit ?_ | refine g_in_exit rfl ?_ | refine g_in_exit_ne (by decide) ?_ | refine g_seq ?_ | refine g_region ?_ | refine g_block ?_ | refine g_ret ?_ | refine g_return_n ?_ | refine g_exit ?_ | refine g_skip ?_)
  refine o_move ?_
  first | refine g_endt ?_ | refine g_end ?_
  first | refine g_seq (g_cond_f rfl (rfl) ?_) | refine g_cond_f rfl (rfl) ?_
  repeat (first | refine g_endt ?_ | refine g_end ?_ | refine g_then ?_ | refine g_in_normal ?_ | refine g_then_ret ?_ | refine g_in_ret ?_ | refine g_then_exit ?_ | refine g_in_exit rfl ?_ | refine g_in_exit_ne (by decide) ?_ | refine g_seq ?_ | refine g_region ?_ | refine g_block ?_ | refine g_ret ?_ | refine g_return_n ?_ | refine g_exit ?_ | refine g_skip ?_)
  refine o_move ?_
  refine o_move ?_
  refine o_lss rfl rfl ?_
  first | refine g_endt ?_ | refine g_end ?_
  by_cases h1 : a < b
  · first | refine g_seq (g_cond_t rfl (by simpa using h1) ?_) | refine g_cond_t rfl (by simpa using h1) ?_
    repeat (first | refine g_endt ?_ | refine g_end ?_ | refine g_then ?_ | refine g_in_normal ?_ | refine g_then_ret ?_ | refine g_in_ret ?_ | refine g_then_exit ?_ | refine g_in_exit rfl ?_ | refine g_in_exit_ne (by decide) ?_ | refine g_seq ?_ | refine g_region ?_ | refine g_block ?_ | refine g_ret ?_ | refine g_return_n ?_ | refine g_exit ?_ | refine g_skip ?_)
    refine o_assign ?_
    first | refine g_endt ?_ | refine g_end ?_
    repeat (first | refine g_endt ?_ | refine g_end ?_ | refine g_then ?_ | refine g_in_normal ?_ | refine g_then_ret ?_ | refine g_in_ret ?_ | refine g_then_exit ?_ | refine g_in_exit rfl ?_ | refine g_in_exit_ne (by decide) ?_ | refine g_seq ?_ | refine g_region ?_ | refine g_block ?_ | refine g_ret ?_ | refine g_return_n ?_ | refine g_exit ?_ | refine g_skip ?_)
    exact ret1 rfl (resT (v := .int .i64 (-1)) rfl) ⟨by simp [cmpI, h1], rfl⟩
  · first | refine g_seq (g_cond_f rfl (by simpa using h1) ?_) | refine g_cond_f rfl (by simpa using h1) ?_
    repeat (first | refine g_endt ?_ | refine g_end ?_ | refine g_then ?_ | refine g_in_normal ?_ | refine g_then_ret ?_ | refine g_in_ret ?_ | refine g_then_exit ?_ | refine g_in_exit rfl ?_ | refine g_in_exit_ne (by decide) ?_ | refine g_seq ?_ | refine g_region ?_ | refine g_block ?_ | refine g_ret ?_ | refine g_return_n ?_ | refine g_exit ?_ | refine g_skip ?_)
    refine o_move ?_
    refine o_move ?_
    refine o_gtr rfl rfl ?_
    first | refine g_endt ?_ | refine g_end ?_
    by_cases h2 : b < a
    · first | refine g_seq (g_cond_t rfl (by simpa using h2) ?_) | refine g_cond_t rfl (by simpa using h2) ?_
      repeat (first | refine g_endt ?_ | refine g_end ?_ | refine g_then ?_ | refine g_in_normal ?_ | refine g_then_ret ?_ | refine g_in_ret ?_ | refine g_then_exit ?_ | refine g_in_exit rfl ?_ | refine g_in_exit_ne (by decide) ?_ | refine g_seq ?_ | refine g_region ?_ | refine g_block ?_ | refine g_ret ?_ | refine g_return_n ?_ | refine g_exit ?_ | refine g_skip ?_)
      refine o_assign ?_
      first | refine g_endt ?_ | refine g_end ?_
      repeat (first | refine g_endt ?_ | refine g_end ?_ | refine g_then ?_ | refine g_in_normal ?_ | refine g_then_ret ?_ | refine g_in_ret ?_ | refine g_then_exit ?_ | refine g_in_exit rfl ?_ | refine g_in_exit_ne (by decide) ?_ | refine g_seq ?_ | refine g_region ?_ | refine g_block ?_ | refine g_ret ?_ | refine g_return_n ?_ | refine g_exit ?_ | refine g_skip ?_)
      exact ret1 rfl (resT (v := .int .i64 1) rfl) ⟨by simp [cmpI, h1, h2], rfl⟩
    · first | refine g_seq (g_cond_f rfl (by simpa using h2) ?_) | refine g_cond_f rfl (by simpa using h2) ?_
      repeat (first | refine g_endt ?_ | refine g_end ?_ | refine g_then ?_ | refine g_in_normal ?_ | refine g_then_ret ?_ | refine g_in_ret ?_ | refine g_then_exit ?_ | refine g_in_exit rfl ?_ | refine g_in_exit_ne (by decide) ?_ | refine g_seq ?_ | refine g_region ?_ | refine g_block ?_ | refine g_ret ?_ | refine g_return_n ?_ | refine g_exit ?_ | refine g_skip ?_)
      refine o_assign ?_
      first | refine g_endt ?_ | refine g_end ?_
      repeat (first | refine g_endt ?_ | refine g_end ?_ | refine g_then ?_ | refine g_in_normal ?_ | refine g_then_ret ?_ | refine g_in_ret ?_ | refine g_then_exit ?_ | refine g_in_exit rfl ?_ | refine g_in_exit_ne (by decide) ?_ | refine g_seq ?_ | refine g_region ?_ | refine g_block ?_ | refine g_ret ?_ | refine g_return_n ?_ | refine g_exit ?_ | refine g_skip ?_)
      exact ret1 rfl (resT (v := .int .i64 0) rfl) ⟨by simp [cmpI, h1, h2], rfl⟩
theorem CompareS_spec (a b : ByteArray) : Ctr Try.prog 256 [.string a, .string b] [] (fun v M => v = .int .i64 (cmpS a b) ∧ M = []) := by
  refine spec_of Try.func256 rfl Try.ntmps256 rfl fun w0 F => ?_
  repeat (first | refine g_endt ?_ | refine g_end ?_ | refine g_then ?_ | refine g_in_normal ?_ | refine g_then_ret ?_ | refine g_in_ret ?_ | refine g_then_exit ?_ | refine g_in_exit rfl ?_ | refine g_in_exit_ne (by decide) ?_ | refine g_seq ?_ | refine g_region ?_ | refine g_block ?_ | refine g_ret ?_ | refine g_return_n ?_ | refine g_exit ?_ | refine g_skip ?_)
  refine o_assign ?_
  first | refine g_endt ?_ | refine g_end ?_
  repeat (first | refine g_endt ?_ | refine g_end ?_ | refine g_then ?_ | refine g_in_normal ?_ | refine g_then_ret ?_ | refine g_in_ret ?_ | refine g_then_exit ?_ | refine g_in_exit rfl ?_ | refine g_in_exit_ne (by decide) ?_ | refine g_seq ?_ | refine g_region ?_ | refine g_block ?_ | refine g_ret ?_ | refine g_return_n ?_ | refine g_exit ?_ | refine g_skip ?_)
  refine o_move ?_
  refine o_call (isNaNS_spec a) rfl rfl ?_
  rintro _ _ ⟨rfl, rfl⟩
  refine o_assign ?_
  first | refine g_endt ?_ | refine g_end ?_
  repeat (first | refine g_endt ?_ | refine g_end ?_ | refine g_then ?_ | refine g_in_normal ?_ | refine g_then_ret ?_ | refine g_in_ret ?_ | refine g_then_exit ?_ | refine g_in_exit rfl ?_ | refine g_in_exit_ne (by decide) ?_ | refine g_seq ?_ | refine g_region ?_ | refine g_block ?_ | refine g_ret ?_ | refine g_return_n ?_ | refine g_exit ?_ | refine g_skip ?_)
  refine o_move ?_
  refine o_call (isNaNS_spec b) rfl rfl ?_
  rintro _ _ ⟨rfl, rfl⟩
  refine o_assign ?_
  first | refine g_endt ?_ | refine g_end ?_
  repeat (first | refine g_endt ?_ | refine g_end ?_ | refine g_then ?_ | refine g_in_normal ?_ | refine g_then_ret ?_ | refine g_in_ret ?_ | refine g_then_exit ?_ | refine g_in_exit rfl ?_ | refine g_in_exit_ne (by decide) ?_ | refine g_seq ?_ | refine g_region ?_ | refine g_block ?_ | refine g_ret ?_ | refine g_return_n ?_ | refine g_exit ?_ | refine g_skip ?_)
  refine o_move ?_
  first | refine g_endt ?_ | refine g_end ?_
  first | refine g_seq (g_cond_f rfl (rfl) ?_) | refine g_cond_f rfl (rfl) ?_
  repeat (first | refine g_endt ?_ | refine g_end ?_ | refine g_then ?_ | refine g_in_normal ?_ | refine g_then_ret ?_ | refine g_in_ret ?_ | refine g_then_exit ?_ | refine g_in_exit rfl ?_ | refine g_in_exit_ne (by decide) ?_ | refine g_seq ?_ | refine g_region ?_ | refine g_block ?_ | refine g_ret ?_ | refine g_return_n ?_ | refine g_exit ?_ | refine g_skip ?_)
  refine o_move ?_
  first | refine g_endt ?_ | refine g_end ?_
  first | refine g_seq (g_cond_f rfl (rfl) ?_) | refine g_cond_f rfl (rfl) ?_
  repeat (first | refine g_endt ?_ | refine g_end ?_ | refine g_then ?_ | refine g_in_normal ?_ | refine g_then_ret ?_ | refine g_in_ret ?_ | refine g_then_exit ?_ | refine g_in_exit rfl ?_ | refine g_in_exit_ne (by decide) ?_ | refine g_seq ?_ | refine g_region ?_ | refine g_block ?_ | refine g_ret ?_ | refine g_return_n ?_ | refine g_exit ?_ | refine g_skip ?_)
  refine o_move ?_
  refine o_move ?_
  refine o_slss rfl rfl ?_
  first | refine g_endt ?_ | refine g_end ?_
  by_cases h1 : Op.bytesLess a.toList b.toList = true
  · first | refine g_seq (g_cond_t rfl (h1) ?_) | refine g_cond_t rfl (h1) ?_
    repeat (first | refine g_endt ?_ | refine g_end ?_ | refine g_then ?_ | refine g_in_normal ?_ | refine g_then_ret ?_ | refine g_in_ret ?_ | refine g_then_exit ?_ | refine g_in_exit rfl ?_ | refine g_in_exit_ne (by decide) ?_ | refine g_seq ?_ | refine g_region ?_ | refine g_block ?_ | refine g_ret ?_ | refine g_return_n ?_ | refine g_exit ?_ | refine g_skip ?_)
    refine o_assign ?_
    first | refine g_endt ?_ | refine g_end ?_
    repeat (first | refine g_endt ?_ | refine g_end ?_ | refine g_then ?_ | refine g_in_normal ?_ | refine g_then_ret ?_ | refine g_in_ret ?_ | refine g_then_exit ?_ | refine g_in_exit rfl ?_ | refine g_in_exit_ne (by decide) ?_ | refine g_seq ?_ | refine g_region ?_ | refine g_block ?_ | refine g_ret ?_ | refine g_return_n ?_ | refine g_exit ?_ | refine g_skip ?_)
    exact ret1 rfl (resT (v := .int .i64 (-1)) rfl) ⟨by simp [cmpS, h1], rfl⟩
  · first | refine g_seq (g_cond_f rfl (by simpa using h1) ?_) | refine g_cond_f rfl (by simpa using h1) ?_
    repeat (first | refine g_endt ?_ | refine g_end ?_ | refine g_then ?_ | refine g_in_normal ?_ | refine g_then_ret ?_ | refine g_in_ret ?_ | refine g_then_exit ?_ | refine g_in_exit rfl ?_ | refine g_in_exit_ne (by decide) ?_ | refine g_seq ?_ | refine g_region ?_ | refine g_block ?_ | refine g_ret ?_ | refine g_return_n ?_ | refine g_exit ?_ | refine g_skip ?_)
    refine o_move ?_
    refine o_move ?_
    refine o_sgtr rfl rfl ?_
    first | refine g_endt ?_ | refine g_end ?_
    by_cases h2 : Op.bytesLess b.toList a.toList = true
    · first | refine g_seq (g_cond_t rfl (h2) ?_) | refine g_cond_t rfl (h2) ?_
      repeat (first | refine g_endt ?_ | refine g_end ?_ | refine g_then ?_ | refine g_in_normal ?_ | refine g_then_ret ?_ | refine g_in_ret ?_ | refine g_then_exit ?_ | refine g_in_exit rfl ?_ | refine g_in_exit_ne (by decide) ?_ | refine g_seq ?_ | refine g_region ?_ | refine g_block ?_ | refine g_ret ?_ | refine g_return_n ?_ | refine g_exit ?_ | refine g_skip ?_)
      refine o_assign ?_
      first | refine g_endt ?_ | refine g_end ?_
      repeat (first | refine g_endt ?_ | refine g_end ?_ | refine g_then ?_ | refine g_in_normal ?_ | refine g_then_ret ?_ | refine g_in_ret ?_ | refine g_then_exit ?_ | refine g_in_exit rfl ?_ | refine g_in_exit_ne (by decide) ?_ | refine g_seq ?_ | refine g_region ?_ | refine g_block ?_ | refine g_ret ?_ | refine g_return_n ?_ | refine g_exit ?_ | refine g_skip ?_)
      exact ret1 rfl (resT (v := .int .i64 1) rfl) ⟨by simp [cmpS, h1, h2], rfl⟩
    · first | refine g_seq (g_cond_f rfl (by simpa using h2) ?_) | refine g_cond_f rfl (by simpa using h2) ?_
      repeat (first | refine g_endt ?_ | refine g_end ?_ | refine g_then ?_ | refine g_in_normal ?_ | refine g_then_ret ?_ | refine g_in_ret ?_ | refine g_then_exit ?_ | refine g_in_exit rfl ?_ | refine g_in_exit_ne (by decide) ?_ | refine g_seq ?_ | refine g_region ?_ | refine g_block ?_ | refine g_ret ?_ | refine g_return_n ?_ | refine g_exit ?_ | refine g_skip ?_)
      refine o_assign ?_
      first | refine g_endt ?_ | refine g_end ?_
      repeat (first | refine g_endt ?_ | refine g_end ?_ | refine g_then ?_ | refine g_in_normal ?_ | refine g_then_ret ?_ | refine g_in_ret ?_ | refine g_then_exit ?_ | refine g_in_exit rfl ?_ | refine g_in_exit_ne (by decide) ?_ | refine g_seq ?_ | refine g_region ?_ | refine g_block ?_ | refine g_ret ?_ | refine g_return_n ?_ | refine g_exit ?_ | refine g_skip ?_)
      exact ret1 rfl (resT (v := .int .i64 0) rfl) ⟨by simp [cmpS, h1, h2], rfl⟩
theorem CompareSym_spec (a b : SymD) : Ctr Try.prog 254 [a.val, b.val] [] (fun v M => v = .int .i64 (a.cmp b) ∧ M = []) := by
  refine spec_of Try.func254 rfl Try.ntmps254 rfl fun w0 F => ?_
  repeat (first | refine g_endt ?_ | refine g_end ?_ | refine g_then ?_ | refine g_in_normal ?_ | refine g_then_ret ?_ | refine g_in_ret ?_ | refine g_then_exit ?_ | refine g_in_exit rfl ?_ | refine g_in_exit_ne (by decide) ?_ | refine g_seq ?_ | refine g_region ?_ | refine g_block ?_ | refine g_ret ?_ | refine g_return_n ?_ | refine g_exit ?_ | refine g_skip ?_)
  refine o_boxc a.val.cells rfl rfl fun p => ?_
  refine o_boxc b.val.cells rfl rfl fun q => ?_
  refine o_assign ?_
  first | refine g_endt ?_ | refine g_end ?_
  repeat (first | refine g_endt ?_ | refine g_end ?_ | refine g_then ?_ | refine g_in_normal ?_ | refine g_then_ret ?_ | refine g_in_ret ?_ | refine g_then_exit ?_ | refine g_in_exit rfl ?_ | refine g_in_exit_ne (by decide) ?_ | refine g_seq ?_ | refine g_region ?_ | refine g_block ?_ | refine g_ret ?_ | refine g_return_n ?_ | refine g_exit ?_ | refine g_skip ?_)
  refine o_field rfl ?_
  refine o_load1 (v := .int .i64 a.kind) rfl rfl ?_
  refine o_field rfl ?_
  refine o_load1 (v := .int .i64 b.kind) rfl rfl ?_
  refine o_call (CompareI_spec a.kind b.kind) rfl rfl ?_
  rintro _ _ ⟨rfl, rfl⟩
  refine o_assign ?_
  first | refine g_endt ?_ | refine g_end ?_
  repeat (first | refine g_endt ?_ | refine g_end ?_ | refine g_then ?_ | refine g_in_normal ?_ | refine g_then_ret ?_ | refine g_in_ret ?_ | refine g_then_exit ?_ | refine g_in_exit rfl ?_ | refine g_in_exit_ne (by decide) ?_ | refine g_seq ?_ | refine g_region ?_ | refine g_block ?_ | refine g_ret ?_ | refine g_return_n ?_ | refine g_exit ?_ | refine g_skip ?_)
  refine o_move ?_
  refine o_neq rfl rfl ?_
  first | refine g_endt ?_ | refine g_end ?_
  by_cases h1 : cmpI a.kind b.kind = 0
  · first | refine g_seq (g_cond_f rfl (by simpa using h1) ?_) | refine g_cond_f rfl (by simpa using h1) ?_
    repeat (first | refine g_endt ?_ | refine g_end ?_ | refine g_then ?_ | refine g_in_normal ?_ | refine g_then_ret ?_ | refine g_in_ret ?_ | refine g_then_exit ?_ | refine g_in_exit rfl ?_ | refine g_in_exit_ne (by decide) ?_ | refine g_seq ?_ | refine g_region ?_ | refine g_block ?_ | refine g_ret ?_ | refine g_return_n ?_ | refine g_exit ?_ | refine g_skip ?_)
    refine o_field rfl ?_
    refine o_load1 (v := .string a.text) rfl rfl ?_
    refine o_field rfl ?_
    refine o_load1 (v := .string b.text) rfl rfl ?_
    refine o_call (CompareS_spec a.text b.text) rfl rfl ?_
    rintro _ _ ⟨rfl, rfl⟩
    refine o_assign ?_
    first | refine g_endt ?_ | refine g_end ?_
    repeat (first | refine g_endt ?_ | refine g_end ?_ | refine g_then ?_ | refine g_in_normal ?_ | refine g_then_ret ?_ | refine g_in_ret ?_ | refine g_then_exit ?_ | refine g_in_exit rfl ?_ | refine g_in_exit_ne (by decide) ?_ | refine g_seq ?_ | refine g_region ?_ | refine g_block ?_ | refine g_ret ?_ | refine g_return_n ?_ | refine g_exit ?_ | refine g_skip ?_)
    refine o_move ?_
    refine o_neq rfl rfl ?_
    first | refine g_endt ?_ | refine g_end ?_
    by_cases h2 : cmpS a.text b.text = 0
    · first | refine g_seq (g_cond_f rfl (by simpa using h2) ?_) | refine g_cond_f rfl (by simpa using h2) ?_
      repeat (first | refine g_endt ?_ | refine g_end ?_ | refine g_then ?_ | refine g_in_normal ?_ | refine g_then_ret ?_ | refine g_in_ret ?_ | refine g_then_exit ?_ | refine g_in_exit rfl ?_ | refine g_in_exit_ne (by decide) ?_ | refine g_seq ?_ | refine g_region ?_ | refine g_block ?_ | refine g_ret ?_ | refine g_return_n ?_ | refine g_exit ?_ | refine g_skip ?_)
      refine o_field rfl ?_
      refine o_load1 (v := .int .i64 a.n) rfl rfl ?_
      refine o_field rfl ?_
      refine o_load1 (v := .int .i64 b.n) rfl rfl ?_
      refine o_call (CompareI_spec a.n b.n) rfl rfl ?_
      rintro _ _ ⟨rfl, rfl⟩
      refine o_assign ?_
      first | refine g_endt ?_ | refine g_end ?_
      repeat (first | refine g_endt ?_ | refine g_end ?_ | refine g_then ?_ | refine g_in_normal ?_ | refine g_then_ret ?_ | refine g_in_ret ?_ | refine g_then_exit ?_ | refine g_in_exit rfl ?_ | refine g_in_exit_ne (by decide) ?_ | refine g_seq ?_ | refine g_region ?_ | refine g_block ?_ | refine g_ret ?_ | refine g_return_n ?_ | refine g_exit ?_ | refine g_skip ?_)
      exact ret1 rfl (resT (v := .int .i64 (cmpI a.n b.n)) rfl) ⟨by simp [SymD.cmp, lex, h1, h2], rfl⟩
    · first | refine g_seq (g_cond_t rfl (by simpa using h2) ?_) | refine g_cond_t rfl (by simpa using h2) ?_
      repeat (first | refine g_endt ?_ | refine g_end ?_ | refine g_then ?_ | refine g_in_normal ?_ | refine g_then_ret ?_ | refine g_in_ret ?_ | refine g_then_exit ?_ | refine g_in_exit rfl ?_ | refine g_in_exit_ne (by decide) ?_ | refine g_seq ?_ | refine g_region ?_ | refine g_block ?_ | refine g_ret ?_ | refine g_return_n ?_ | refine g_exit ?_ | refine g_skip ?_)
      refine o_move ?_
      refine o_assign ?_
      first | refine g_endt ?_ | refine g_end ?_
      repeat (first | refine g_endt ?_ | refine g_end ?_ | refine g_then ?_ | refine g_in_normal ?_ | refine g_then_ret ?_ | refine g_in_ret ?_ | refine g_then_exit ?_ | refine g_in_exit rfl ?_ | refine g_in_exit_ne (by decide) ?_ | refine g_seq ?_ | refine g_region ?_ | refine g_block ?_ | refine g_ret ?_ | refine g_return_n ?_ | refine g_exit ?_ | refine g_skip ?_)
      exact ret1 rfl (resT (v := .int .i64 (cmpS a.text b.text)) rfl) ⟨by simp [SymD.cmp, lex, h1, h2], rfl⟩
  · first | refine g_seq (g_cond_t rfl (by simpa using h1) ?_) | refine g_cond_t rfl (by simpa using h1) ?_
    repeat (first | refine g_endt ?_ | refine g_end ?_ | refine g_then ?_ | refine g_in_normal ?_ | refine g_then_ret ?_ | refine g_in_ret ?_ | refine g_then_exit ?_ | refine g_in_exit rfl ?_ | refine g_in_exit_ne (by decide) ?_ | refine g_seq ?_ | refine g_region ?_ | refine g_block ?_ | refine g_ret ?_ | refine g_return_n ?_ | refine g_exit ?_ | refine g_skip ?_)
    refine o_move ?_
    refine o_assign ?_
    first | refine g_endt ?_ | refine g_end ?_
    repeat (first | refine g_endt ?_ | refine g_end ?_ | refine g_then ?_ | refine g_in_normal ?_ | refine g_then_ret ?_ | refine g_in_ret ?_ | refine g_then_exit ?_ | refine g_in_exit rfl ?_ | refine g_in_exit_ne (by decide) ?_ | refine g_seq ?_ | refine g_region ?_ | refine g_block ?_ | refine g_ret ?_ | refine g_return_n ?_ | refine g_exit ?_ | refine g_skip ?_)
    exact ret1 rfl (resT (v := .int .i64 (cmpI a.kind b.kind)) rfl) ⟨by simp [SymD.cmp, lex, h1], rfl⟩
end Go.Proofs.Ytfakoemkapankaa
/- Pages of symbols and numbers; sorted lists; where a thing stands in one. -/
namespace Go.Proofs.Ytfakoemkapankaa
open Go Go.Sl
attribute [local irreducible] Code.wpIn roundPost bodyPostM runL Ret Meets Begin

section
variable {α : Type} (f : α → α → Int)
/-- The list rises. -/
def Srt (ys : List α) : Prop := ∀ (i j : Nat) (a b : α), i < j → ys[i]? = some a → ys[j]? = some b → f a b < 0
/-- What a search tells. -/
def FindR (ys : List α) (x : α) (k : Nat) (there : Bool) : Prop :=
  k ≤ ys.length ∧ (there = true → ∃ y, ys[k]? = some y ∧ f y x = 0) ∧ (there = false → (∀ (j : Nat) (y : α), j < k → ys[j]? = some y → f y x < 0) ∧ ∀ (j : Nat) (y : α), k ≤ j → ys[j]? = some y → 0 < f y x)
end
/-- A slice, as a value. -/
structure SlV where
  a : Option Addr
  len : Nat
  cap : Nat
end Go.Proofs.Ytfakoemkapankaa
/- Sorted lists: a member put in, taken out, exchanged. Plain law, no program in sight. -/
namespace Go.Proofs.Ytfakoemkapankaa
open Go Go.Sl

section
variable {α : Type} {f : α → α → Int} (lf : LinCmp f) {ys : List α} {x y : α} {k : Nat}
theorem get_ins (hk : k ≤ ys.length) (j : Nat) : (ys.take k ++ x :: ys.drop k)[j]? = if j < k then ys[j]? else if j = k then some x else ys[j - 1]? := by
  have h1 : (ys.take k).length = k := by simp; omega
  by_cases h : j < k
  · rw [List.getElem?_append_left (by omega), if_pos h, List.getElem?_take, if_pos h]
  · rw [if_neg h, List.getElem?_append_right (by omega), h1]
    by_cases e : j = k
    · subst e; simp
    · rw [if_neg e]
      obtain ⟨m, hm⟩ : ∃ m, j - k = m + 1 := ⟨j - k - 1, by omega⟩
      rw [hm, List.getElem?_cons_succ, List.getElem?_drop]
      congr 1
      omega
theorem Srt.erase (hs : Srt f ys) (k : Nat) : Srt f (ys.eraseIdx k) := by
  intro i j a b hij ha hb
  rw [List.getElem?_eraseIdx] at ha hb
  split at ha <;> split at hb
  · exact hs i j a b hij ha hb
  · exact hs i (j + 1) a b (by omega) ha hb
  · omega
  · exact hs (i + 1) (j + 1) a b (by omega) ha hb
/-- The member that is one with x. -/
def getM (f : α → α → Int) (ys : List α) (x : α) : Option α := ys.find? fun y => decide (f y x = 0)
theorem getM_none (h : FindR f ys x k false) : getM f ys x = none := by
  obtain ⟨h1, h2⟩ := h.2.2 rfl
  refine List.find?_eq_none.2 fun y hy => ?_
  obtain ⟨j, hj⟩ := List.mem_iff_getElem?.1 hy
  by_cases hjk : j < k
  · have := h1 j y hjk hj; simp; omega
  · have := h2 j y (by omega) hj; simp; omega
include lf
theorem Srt.ins (hs : Srt f ys) (hf : FindR f ys x k false) : Srt f (ys.take k ++ x :: ys.drop k) := by
  obtain ⟨hk, _, h⟩ := hf
  obtain ⟨h1, h2⟩ := h rfl
  intro i j a b hij ha hb
  rw [get_ins hk] at ha hb
  by_cases hi : i < k
  · rw [if_pos hi] at ha
    by_cases hj : j < k
    · rw [if_pos hj] at hb; exact hs i j a b hij ha hb
    · rw [if_neg hj] at hb
      by_cases e : j = k
      · rw [if_pos e] at hb; cases hb; exact h1 i a hi ha
      · rw [if_neg e] at hb; exact hs i (j - 1) a b (by omega) ha hb
  · rw [if_neg hi] at ha
    rw [if_neg (by omega), if_neg (by omega)] at hb
    by_cases e : i = k
    · rw [if_pos e] at ha; cases ha
      have := h2 (j - 1) b (by omega) hb
      have := lf.swap b x
      omega
    · rw [if_neg e] at ha; exact hs (i - 1) (j - 1) a b (by omega) ha hb
theorem Srt.set (hs : Srt f ys) (hy : ys[k]? = some y) (e : f y x = 0) : Srt f (ys.set k x) := by
  have hk : k < ys.length := (List.getElem?_eq_some_iff.1 hy).1
  intro i j a b hij ha hb
  rw [List.getElem?_set] at ha hb
  by_cases hi : k = i
  · rw [if_pos hi, if_pos (by omega)] at ha
    cases ha
    rw [if_neg (by omega)] at hb
    subst hi
    rw [← lf.eqv y x b e]
    exact hs k j y b hij hy hb
  · rw [if_neg hi] at ha
    by_cases hj : k = j
    · rw [if_pos hj, if_pos (by omega)] at hb
      cases hb
      subst hj
      rw [← lf.eqv' y x a e]
      exact hs i k a y hij ha hy
    · rw [if_neg hj] at hb
      exact hs i j a b hij ha hb
/-- Where a thing stands is one place. -/
theorem FindR.one {k' : Nat} (hs : Srt f ys) (h : FindR f ys x k true) (h' : FindR f ys x k' true) : k = k' := by
  obtain ⟨a, ha, ea⟩ := h.2.1 rfl
  obtain ⟨b, hb, eb⟩ := h'.2.1 rfl
  have e2 : f a b = 0 := by
    have h3 := lf.swap b x
    rw [lf.eqv' x b a (by omega)] at ea
    exact ea
  rcases Nat.lt_trichotomy k k' with h3 | h3 | h3
  · have := hs k k' a b h3 ha hb; omega
  · exact h3
  · have := hs k' k b a h3 hb ha
    have := lf.swap a b
    omega
theorem getM_some (hs : Srt f ys) (h : FindR f ys x k true) (hy : ys[k]? = some y) : getM f ys x = some y := by
  have hk := h.2.1 rfl
  obtain ⟨a, ha, ea⟩ := hk
  rw [hy] at ha
  cases ha
  cases hg : getM f ys x with
  | none =>
    have := List.find?_eq_none.1 hg y (List.mem_of_getElem? hy)
    simp [ea] at this
  | some b =>
    have h1 := List.find?_some hg
    have h2 := List.mem_of_find?_eq_some hg
    obtain ⟨j, hj⟩ := List.mem_iff_getElem?.1 h2
    have h3 : FindR f ys x j true := ⟨by have := (List.getElem?_eq_some_iff.1 hj).1; omega, fun _ => ⟨b, hj, by simpa using h1⟩, fun e => by cases e⟩
    have h4 := FindR.one lf hs h h3
    subst h4
    rw [hy] at hj
    exact hj.symm
/-- What is not there has its place all the same. -/
theorem find_none (hs : Srt f ys) (h : getM f ys x = none) : ∃ k, FindR f ys x k false := by
  have hne : ∀ (j : Nat) (a : α), ys[j]? = some a → f a x ≠ 0 := fun j a ha => by
    have := List.find?_eq_none.1 h a (List.mem_of_getElem? ha)
    simpa using this
  have key : ∀ n, n ≤ ys.length → ∃ k, k ≤ n ∧ (∀ (j : Nat) (a : α), j < k → ys[j]? = some a → f a x < 0) ∧ ∀ (j : Nat) (a : α), k ≤ j → j < n → ys[j]? = some a → 0 < f a x := by
    intro n
    induction n with
    | zero => exact fun _ => ⟨0, Nat.le_refl _, fun j a hj => absurd hj (Nat.not_lt_zero j), fun j a _ hj => absurd hj (Nat.not_lt_zero j)⟩
    | succ n ih =>
      intro hn
      obtain ⟨k, hk, h1, h2⟩ := ih (by omega)
      obtain ⟨b, hb⟩ : ∃ b, ys[n]? = some b := ⟨_, List.getElem?_eq_getElem (by omega)⟩
      by_cases hlt : f b x < 0
      · refine ⟨n + 1, Nat.le_refl _, fun j a hj ha => ?_, fun j a h3 h4 => by omega⟩
        by_cases e : j = n
        · subst e; rw [hb] at ha; cases ha; exact hlt
        · exact lf.trans _ _ _ (hs j n a b (by omega) ha hb) hlt
      · refine ⟨k, by omega, h1, fun j a hj hjn ha => ?_⟩
        by_cases e : j = n
        · subst e; rw [hb] at ha; cases ha; have := hne j b hb; omega
        · exact h2 j a hj (by omega) ha
  obtain ⟨k, hk, h1, h2⟩ := key ys.length (Nat.le_refl _)
  exact ⟨k, hk, fun e => (by cases e), fun _ => ⟨h1, fun j a hj ha => h2 j a hj (List.getElem?_eq_some_iff.1 ha).1 ha⟩⟩
/-- One exchanged for another that is one with it: taken out and put in again. -/
theorem replace {k' : Nat} {there : Bool} (hs : Srt f ys) (hy : ys[k]? = some y) (e : f y x = 0) (h : FindR f (ys.eraseIdx k) x k' there) : there = false ∧ (ys.eraseIdx k).take k' ++ x :: (ys.eraseIdx k).drop k' = ys.set k x := by
  have hk : k < ys.length := (List.getElem?_eq_some_iff.1 hy).1
  have low : ∀ j a, j < k → ys[j]? = some a → f a x < 0 := fun j a hj ha => by
    rw [← lf.eqv' y x a e]; exact hs j k a y hj ha hy
  have high : ∀ j a, k < j → ys[j]? = some a → 0 < f a x := fun j a hj ha => by
    have h1 := hs k j y a hj hy ha
    have h2 := lf.swap y a
    rw [← lf.eqv' y x a e]
    omega
  have hne : ∀ j a, (ys.eraseIdx k)[j]? = some a → f a x ≠ 0 := fun j a ha => by
    rw [List.getElem?_eraseIdx] at ha
    split at ha
    · have := low j a ‹_› ha; omega
    · have := high (j + 1) a (by omega) ha; omega
  have ht : there = false := by
    cases there with
    | false => rfl
    | true =>
      obtain ⟨a, ha, ea⟩ := h.2.1 rfl
      exact absurd ea (hne k' a ha)
  subst ht
  refine ⟨rfl, ?_⟩
  obtain ⟨h1, h2⟩ := h.2.2 rfl
  have hlen : (ys.eraseIdx k).length = ys.length - 1 := by rw [List.length_eraseIdx, if_pos hk]
  have hkk : k' = k := by
    rcases Nat.lt_trichotomy k' k with h3 | h3 | h3
    · have hj : k' < ys.length := by omega
      have ha : (ys.eraseIdx k)[k']? = some ys[k'] := by rw [List.getElem?_eraseIdx, if_pos h3, List.getElem?_eq_getElem hj]
      have := h2 k' _ (Nat.le_refl _) ha
      have := low k' _ h3 (List.getElem?_eq_getElem hj)
      omega
    · exact h3
    · have hj : k + 1 < ys.length := by have := h.1; omega
      have ha : (ys.eraseIdx k)[k]? = some ys[k + 1] := by rw [List.getElem?_eraseIdx, if_neg (by omega), List.getElem?_eq_getElem hj]
      have := h1 k _ h3 ha
      have := high (k + 1) _ (by omega) (List.getElem?_eq_getElem hj)
      omega
  subst hkk
  rw [List.eraseIdx_eq_take_drop_succ, List.set_eq_take_append_cons_drop, if_pos hk]
  have h3 : (ys.take k').length = k' := by simp; omega
  rw [List.take_append_of_le_length (by omega), List.take_of_length_le (by omega), List.drop_append_of_le_length (by omega), List.drop_of_length_le (by omega), List.nil_append]
end
/-- What a search tells, and what is passed over. -/
theorem find_dropWhile {α : Type} {f : α → α → Int} (lf : LinCmp f) {ys : List α} {x : α} {k : Nat} {there : Bool} (hs : Srt f ys) (h : FindR f ys x k there) : ys.drop k = ys.dropWhile fun y => decide (f y x < 0) := by
  have h1 : ∀ (j : Nat) (y : α), j < k → ys[j]? = some y → f y x < 0 := by
    cases there with
    | false => exact (h.2.2 rfl).1
    | true =>
      obtain ⟨z, hz, e⟩ := h.2.1 rfl
      intro j y hj hy
      have := hs j k y z hj hy hz
      have h2 := lf.eqv' z x y e
      omega
  have h2 : ∀ (j : Nat) (y : α), k ≤ j → ys[j]? = some y → ¬ f y x < 0 := by
    cases there with
    | false => intro j y hj hy; have := (h.2.2 rfl).2 j y hj hy; omega
    | true =>
      obtain ⟨z, hz, e⟩ := h.2.1 rfl
      intro j y hj hy
      by_cases e2 : j = k
      · subst e2; rw [hz] at hy; cases hy; omega
      · have := hs k j z y (by omega) hz hy
        have h3 := lf.eqv' z x y e
        have h4 := lf.swap z y
        omega
  have h0 := h.1
  clear h hs lf
  induction ys generalizing k with
  | nil => simp
  | cons y ys ih =>
    cases k with
    | zero =>
      have := h2 0 y (Nat.le_refl _) rfl
      simp [this]
    | succ k =>
      have := h1 0 y (by omega) rfl
      simp only [List.drop_succ_cons]
      rw [List.dropWhile_cons_of_pos (by simpa using this)]
      exact ih (fun j z hj hz => h1 (j + 1) z (by omega) (by simpa using hz)) (fun j z hj hz => h2 (j + 1) z (by omega) (by simpa using hz)) (by simpa using h0)
/-- A loop's store, opened till its first round. -/
def Jin {α : Type} (O : List SProp) (J : List α → List SProp) : List α → List SProp
  | [] => O
  | y :: t => J (y :: t)
theorem Jin_snoc {α : Type} (O : List SProp) (J : List α → List SProp) (pre : List α) (x : α) : Jin O J (pre ++ [x]) = J (pre ++ [x]) := by cases pre <;> rfl
theorem Jin_ent {α : Type} {O : List SProp} {J : List α → List SProp} (h : Ent (sl O) (sl (J []))) : ∀ pre, Ent (sl (Jin O J pre)) (sl (J pre))
  | [] => h
  | _ :: _ => .refl _
end Go.Proofs.Ytfakoemkapankaa
/- Sorted lists, told as functions: one more, one less. Plain law, no program in sight. -/
namespace Go.Proofs.Ytfakoemkapankaa
open Go Go.Sl

section
variable {α : Type} {f : α → α → Int}
/-- One more, if there is none that is one with it. -/
def insC (f : α → α → Int) (ys : List α) (x : α) : List α := if ys.any (fun y => decide (f y x = 0)) then ys else ys.takeWhile (fun y => decide (f y x < 0)) ++ x :: ys.dropWhile (fun y => decide (f y x < 0))
/-- Without the one that is one with it. -/
def delC (f : α → α → Int) (ys : List α) (x : α) : List α := ys.filter fun y => !decide (f y x = 0)
/-- Is there one that is one with it? -/
def hasC (f : α → α → Int) (ys : List α) (x : α) : Bool := ys.any fun y => decide (f y x = 0)
theorem hasC_of {ys : List α} {x : α} {k : Nat} {there : Bool} (h : FindR f ys x k there) : hasC f ys x = there := by
  cases there with
  | true =>
    obtain ⟨y, hy, e⟩ := h.2.1 rfl
    exact List.any_eq_true.2 ⟨y, List.mem_of_getElem? hy, by simpa using e⟩
  | false =>
    obtain ⟨h1, h2⟩ := h.2.2 rfl
    refine List.any_eq_false.2 fun y hy => ?_
    obtain ⟨j, hj⟩ := List.mem_iff_getElem?.1 hy
    simp only [decide_eq_true_eq]
    by_cases hlt : j < k
    · have := h1 j y hlt hj; omega
    · have := h2 j y (by omega) hj; omega
theorem take_takeWhile {p : α → Bool} : ∀ (ys : List α) (k : Nat), ys.drop k = ys.dropWhile p → k ≤ ys.length → ys.take k = ys.takeWhile p := fun ys k h hk => by
  have h1 := List.take_append_drop k ys
  have h2 : ys.takeWhile p ++ ys.dropWhile p = ys := List.takeWhile_append_dropWhile
  rw [h] at h1
  exact List.append_cancel_right (h1.trans h2.symm)
theorem insC_of (lf : LinCmp f) {ys : List α} {x : α} {k : Nat} {there : Bool} (hs : Srt f ys) (h : FindR f ys x k there) : cond there ys (ys.take k ++ x :: ys.drop k) = insC f ys x := by
  have h1 := hasC_of h
  unfold insC
  unfold hasC at h1
  rw [h1]
  cases there with
  | true => rfl
  | false =>
    have h2 := find_dropWhile lf hs h
    simp only [cond_false, Bool.false_eq_true, if_false]
    rw [take_takeWhile ys k h2 h.1, h2]
theorem Srt.tail {y : α} {ys : List α} (h : Srt f (y :: ys)) : Srt f ys := fun i j a b hij ha hb => h (i + 1) (j + 1) a b (by omega) (by simpa using ha) (by simpa using hb)
theorem Srt.head {y : α} {ys : List α} (h : Srt f (y :: ys)) : ∀ z ∈ ys, f y z < 0 := fun z hz => by
  obtain ⟨j, hj⟩ := List.mem_iff_getElem?.1 hz
  exact h 0 (j + 1) y z (by omega) rfl (by simpa using hj)
theorem Srt.cons {y : α} {ys : List α} (h : ∀ z ∈ ys, f y z < 0) (hs : Srt f ys) : Srt f (y :: ys) := fun i j a b hij ha hb => by
  cases j with
  | zero => omega
  | succ j =>
    cases i with
    | zero => simp at ha hb; subst ha; exact h b (List.mem_of_getElem? hb)
    | succ i => exact hs i j a b (by omega) (by simpa using ha) (by simpa using hb)
theorem Srt.nil : Srt f ([] : List α) := fun i j a b _ h => by simp at h
theorem Srt.one (y : α) : Srt f [y] := Srt.cons (by simp) Srt.nil
theorem Srt.filter (p : α → Bool) : ∀ {ys : List α}, Srt f ys → Srt f (ys.filter p)
  | [], _ => by simpa using Srt.nil
  | y :: ys, h => by
    rw [List.filter_cons]
    split
    · exact Srt.cons (fun z hz => h.head z (List.mem_filter.1 hz).1) (Srt.filter p h.tail)
    · exact Srt.filter p h.tail
theorem Srt.find (lf : LinCmp f) : ∀ {ys : List α}, Srt f ys → ∀ x, ∃ k there, FindR f ys x k there
  | [], _, x => ⟨0, false, Nat.le_refl _, fun e => (by cases e), fun _ => ⟨fun j y h => absurd h (Nat.not_lt_zero j), fun j y _ h => by simp at h⟩⟩
  | y :: ys, h, x => by
    by_cases h0 : f y x = 0
    · exact ⟨0, true, Nat.zero_le _, fun _ => ⟨y, rfl, h0⟩, fun e => by cases e⟩
    · by_cases h1 : f y x < 0
      · obtain ⟨k, t, a, b, c⟩ := h.tail.find lf x
        refine ⟨k + 1, t, by simpa using a, fun e => ?_, fun e => ?_⟩
        · simpa using b e
        · obtain ⟨c1, c2⟩ := c e
          refine ⟨fun j z hj hz => ?_, fun j z hj hz => ?_⟩
          · cases j with
            | zero => simp at hz; subst hz; exact h1
            | succ j => exact c1 j z (by omega) (by simpa using hz)
          · cases j with
            | zero => omega
            | succ j => exact c2 j z (by omega) (by simpa using hz)
      · refine ⟨0, false, Nat.zero_le _, fun e => (by cases e), fun _ => ⟨fun j z hj => absurd hj (Nat.not_lt_zero j), fun j z _ hz => ?_⟩⟩
        cases j with
        | zero => simp at hz; subst hz; omega
        | succ j =>
          have h2 := h.head z (List.mem_of_getElem? (by simpa using hz))
          have h3 := lf.swap y z
          have h4 := lf.swap x z
          have h5 := lf.swap y x
          by_cases h6 : f z x < 0
          · have := lf.trans y z x h2 h6; omega
          · by_cases h7 : f z x = 0
            · have := lf.eqv' z x y h7; omega
            · omega
theorem Srt.insC (lf : LinCmp f) {ys : List α} (hs : Srt f ys) (x : α) : Srt f (insC f ys x) := by
  obtain ⟨k, t, h⟩ := hs.find lf x
  rw [← insC_of lf hs h]
  cases t with
  | true => exact hs
  | false => exact Srt.ins lf hs h
theorem length_insC (ys : List α) (x : α) : (insC f ys x).length = if hasC f ys x then ys.length else ys.length + 1 := by
  unfold insC hasC
  split
  · rfl
  · have h : (ys.takeWhile (fun y => decide (f y x < 0)) ++ ys.dropWhile (fun y => decide (f y x < 0))).length = ys.length := by rw [List.takeWhile_append_dropWhile]
    simp only [List.length_append, List.length_cons] at h ⊢
    omega
theorem length_insC_le (ys : List α) (x : α) : (insC f ys x).length ≤ ys.length + 1 := by rw [length_insC]; split <;> omega
theorem mem_insC {ys : List α} {x z : α} : z ∈ insC f ys x ↔ z ∈ ys ∨ (hasC f ys x = false ∧ z = x) := by
  unfold insC hasC
  cases hc : ys.any (fun y => decide (f y x = 0)) with
  | true => simp
  | false =>
    simp only [Bool.false_eq_true, if_false, true_and]
    have h : ∀ z, z ∈ ys ↔ z ∈ ys.takeWhile (fun y => decide (f y x < 0)) ++ ys.dropWhile (fun y => decide (f y x < 0)) := fun z => by rw [List.takeWhile_append_dropWhile]
    rw [h z]
    simp only [List.mem_append, List.mem_cons]
    exact ⟨fun h => by rcases h with h | h | h <;> simp [h], fun h => by rcases h with (h | h) | h <;> simp [h]⟩
theorem Srt.uniq (lf : LinCmp f) {ys : List α} (hs : Srt f ys) {a b : α} (ha : a ∈ ys) (hb : b ∈ ys) (e : f a b = 0) : a = b := by
  obtain ⟨i, hi⟩ := List.mem_iff_getElem?.1 ha
  obtain ⟨j, hj⟩ := List.mem_iff_getElem?.1 hb
  by_cases h1 : i < j
  · have := hs i j a b h1 hi hj; omega
  · by_cases h2 : j < i
    · have := hs j i b a h2 hj hi
      have h3 := lf.swap a b; omega
    · have : i = j := by omega
      subst this; rw [hi] at hj; cases hj; rfl
theorem delC_of (lf : LinCmp f) {ys : List α} {x : α} {k : Nat} {there : Bool} (hs : Srt f ys) (h : FindR f ys x k there) : cond there (ys.eraseIdx k) ys = delC f ys x := by
  unfold delC
  cases there with
  | false =>
    have h1 := hasC_of h
    rw [cond_false, List.filter_eq_self.2]
    intro y hy
    have := List.any_eq_false.1 h1 y hy
    simpa using this
  | true =>
    obtain ⟨y, hy, e⟩ := h.2.1 rfl
    rw [cond_true]
    have hk := (List.getElem?_eq_some_iff.1 hy).1
    rw [List.eraseIdx_eq_take_drop_succ]
    have hsp : ys = ys.take k ++ y :: ys.drop (k + 1) := by
      conv => lhs; rw [← List.take_append_drop k ys]
      congr 1
      rw [List.drop_eq_getElem_cons hk]
      rw [List.getElem?_eq_getElem hk] at hy
      cases hy; rfl
    conv => rhs; rw [hsp]
    rw [List.filter_append, List.filter_cons, if_neg (by simpa using e)]
    have hne : ∀ z j, ys[j]? = some z → j ≠ k → f z x ≠ 0 := fun z j hj hjk e2 => by
      have e3 : f z y = 0 := by rw [lf.eqv' y x z e]; exact e2
      have := hs.uniq lf (List.mem_of_getElem? hj) (List.mem_of_getElem? hy) e3
      subst this
      by_cases h1 : j < k
      · have := hs j k z z h1 hj hy; have := lf.refl z; omega
      · have := hs k j z z (by omega) hy hj; have := lf.refl z; omega
    congr 1
    · symm
      rw [List.filter_eq_self]
      intro z hz
      obtain ⟨j, hj⟩ := List.mem_iff_getElem?.1 hz
      rw [List.getElem?_take] at hj
      split at hj
      · have := hne z j hj (by omega)
        simpa using this
      · cases hj
    · symm
      rw [List.filter_eq_self]
      intro z hz
      obtain ⟨j, hj⟩ := List.mem_iff_getElem?.1 hz
      rw [List.getElem?_drop] at hj
      have := hne z (k + 1 + j) hj (by omega)
      simpa using this
theorem mem_delC {ys : List α} {x z : α} : z ∈ delC f ys x ↔ z ∈ ys ∧ f z x ≠ 0 := by simp [delC, List.mem_filter]
/-- Two sorted lists with the same members are the same. -/
theorem Srt.ext (lf : LinCmp f) : ∀ {xs ys : List α}, Srt f xs → Srt f ys → (∀ z, z ∈ xs ↔ z ∈ ys) → xs = ys
  | [], [], _, _, _ => rfl
  | [], y :: ys, _, _, h => by have := (h y).2 List.mem_cons_self; cases this
  | x :: xs, [], _, _, h => by have := (h x).1 List.mem_cons_self; cases this
  | x :: xs, y :: ys, hx, hy, h => by
    have e : x = y := by
      rcases List.mem_cons.1 ((h x).1 List.mem_cons_self) with e | e
      · exact e
      · rcases List.mem_cons.1 ((h y).2 List.mem_cons_self) with e2 | e2
        · exact e2.symm
        · have h1 := hy.head x e
          have h2 := hx.head y e2
          have h3 := lf.swap x y
          omega
    subst e
    congr 1
    refine Srt.ext lf hx.tail hy.tail fun z => ⟨fun hz => ?_, fun hz => ?_⟩
    · rcases List.mem_cons.1 ((h z).1 (List.mem_cons_of_mem _ hz)) with e | e
      · subst e; have := hx.head z hz; have := lf.refl z; omega
      · exact e
    · rcases List.mem_cons.1 ((h z).2 (List.mem_cons_of_mem _ hz)) with e | e
      · subst e; have := hy.head z hz; have := lf.refl z; omega
      · exact e
theorem getM_mem {ys : List α} {x y : α} (h : getM f ys x = some y) : y ∈ ys ∧ f y x = 0 := ⟨List.mem_of_find?_eq_some h, by simpa using List.find?_some h⟩
theorem getM_of (lf : LinCmp f) {ys : List α} (hs : Srt f ys) {x y : α} (hy : y ∈ ys) (e : f y x = 0) : getM f ys x = some y := by
  cases h : getM f ys x with
  | none =>
    have := List.find?_eq_none.1 h y hy
    simp [e] at this
  | some z =>
    obtain ⟨h1, h2⟩ := getM_mem h
    rw [hs.uniq lf h1 hy (by rw [lf.eqv' y x z e]; exact h2)]
theorem getM_isSome {ys : List α} {x : α} : (getM f ys x).isSome = hasC f ys x := by
  unfold getM hasC
  rw [Bool.eq_iff_iff, List.find?_isSome, List.any_eq_true]
end
theorem hasC_insC {α : Type} {f : α → α → Int} (lf : LinCmp f) (ys : List α) (z x : α) : hasC f (insC f ys z) x = (hasC f ys x || decide (f z x = 0)) := by
  rw [Bool.eq_iff_iff, Bool.or_eq_true, decide_eq_true_eq]
  unfold hasC
  rw [List.any_eq_true, List.any_eq_true]
  constructor
  · rintro ⟨y, hy, e⟩
    rcases mem_insC.1 hy with h | ⟨_, rfl⟩
    · exact .inl ⟨y, h, e⟩
    · exact .inr (by simpa using e)
  · rintro (⟨y, hy, e⟩ | e)
    · exact ⟨y, mem_insC.2 (.inl hy), e⟩
    · cases hc : hasC f ys z with
      | false => exact ⟨z, mem_insC.2 (.inr ⟨hc, rfl⟩), by simpa using e⟩
      | true =>
        obtain ⟨y, hy, e2⟩ := List.any_eq_true.1 hc
        refine ⟨y, mem_insC.2 (.inl hy), ?_⟩
        have e2 : f y z = 0 := by simpa using e2
        have := lf.eqv y z x e2
        simp only [decide_eq_true_eq]
        omega
theorem hasC_fold {α : Type} {f : α → α → Int} (lf : LinCmp f) : ∀ (l a : List α) (x : α), hasC f (l.foldl (insC f) a) x = (hasC f a x || hasC f l x)
  | [], a, x => by simp [hasC]
  | z :: l, a, x => by
    rw [List.foldl_cons, hasC_fold lf l _ x, hasC_insC lf]
    simp [hasC, Bool.or_assoc]
end Go.Proofs.Ytfakoemkapankaa
/- Elements held against each other. -/
namespace Go.Proofs.Ytfakoemkapankaa
open Go Go.Sl
attribute [local irreducible] Code.wpIn roundPost bodyPostM runL Ret Meets Begin

def cmpB (a b : Bool) : Int := if a = b then 0 else if b then -1 else 1
theorem linB : LinCmp cmpB := ⟨fun a b => by cases a <;> cases b <;> rfl, fun a b c => by cases a <;> cases b <;> cases c <;> decide, fun a b c => by cases a <;> cases b <;> cases c <;> decide⟩
theorem cmpB_zero {a b : Bool} (h : cmpB a b = 0) : a = b := by cases a <;> cases b <;> first | rfl | cases h
def ElemD.cmp : ElemD → ElemD → Int := lex (fun a b => a.id.cmp b.id) (lex (fun a b => a.attr.cmp b.attr) (lex (fun a b => a.value.cmp b.value) (fun a b => cmpB a.acc b.acc)))
theorem linElem : LinCmp ElemD.cmp := (linSym.pull ElemD.id).lex ((linSym.pull ElemD.attr).lex ((linSym.pull ElemD.value).lex (linB.pull ElemD.acc)))
theorem SymD.cmp_self (a : SymD) : a.cmp a = 0 := linSym.refl a
theorem SymD.cmp_iff {a b : SymD} : a.cmp b = 0 ↔ a = b := ⟨SymD.cmp_zero, fun h => h ▸ SymD.cmp_self a⟩
theorem ElemD.cmp_iff {a b : ElemD} : a.cmp b = 0 ↔ a.id = b.id ∧ a.attr = b.attr ∧ a.value = b.value ∧ a.acc = b.acc := by
  simp only [ElemD.cmp, lex]
  constructor
  · intro h
    by_cases h1 : a.id.cmp b.id = 0
    · rw [if_pos h1] at h
      by_cases h2 : a.attr.cmp b.attr = 0
      · rw [if_pos h2] at h
        by_cases h3 : a.value.cmp b.value = 0
        · rw [if_pos h3] at h
          exact ⟨SymD.cmp_zero h1, SymD.cmp_zero h2, SymD.cmp_zero h3, cmpB_zero h⟩
        · rw [if_neg h3] at h; exact absurd h h3
      · rw [if_neg h2] at h; exact absurd h h2
    · rw [if_neg h1] at h; exact absurd h h1
  · rintro ⟨h1, h2, h3, h4⟩
    have e1 : a.id.cmp b.id = 0 := SymD.cmp_iff.2 h1
    have e2 : a.attr.cmp b.attr = 0 := SymD.cmp_iff.2 h2
    have e3 : a.value.cmp b.value = 0 := SymD.cmp_iff.2 h3
    rw [if_pos e1, if_pos e2, if_pos e3]
    simp [cmpB, h4]
theorem ElemD.beq_self (x : ElemD) : x.beq x = true := (ElemD.beq_iff x x).2 rfl
def ElemD.zero : ElemD := ⟨⟨0, ByteArray.empty, 0⟩, ⟨0, ByteArray.empty, 0⟩, ⟨0, ByteArray.empty, 0⟩, false, false, 0⟩
def SymD.zero : SymD := ⟨0, ByteArray.empty, 0⟩
theorem CompareElem_spec (a b : ElemD) : Ctr Try.prog 259 [a.val, b.val] [] (fun v M => v = .int .i64 (a.cmp b) ∧ M = []) := by
  refine spec_of Try.func259 rfl Try.ntmps259 rfl fun w0 F => ?_
  -- (ponder/api.Elem).Compare
  repeat (first | refine g_endt ?_ | refine g_end ?_ | refine g_then ?_ | refine g_in_normal ?_ | refine g_then_ret ?_ | refine g_in_ret ?_ | refine g_then_exit ?_ | refine g_in_exit rfl ?_ | refine g_in_exit_ne (by decide) ?_ | refine g_seq ?_ | refine g_region ?_ | refine g_block ?_ | refine g_ret ?_ | refine g_return_n ?_ | refine g_exit ?_ | refine g_skip ?_)
  refine o_boxc a.val.cells rfl rfl fun p => ?_
  refine o_boxc b.val.cells rfl rfl fun q => ?_
  refine o_assign ?_
  first | refine g_endt ?_ | refine g_end ?_
  repeat (first | refine g_endt ?_ | refine g_end ?_ | refine g_then ?_ | refine g_in_normal ?_ | refine g_then_ret ?_ | refine g_in_ret ?_ | refine g_then_exit ?_ | refine g_in_exit rfl ?_ | refine g_in_exit_ne (by decide) ?_ | refine g_seq ?_ | refine g_region ?_ | refine g_block ?_ | refine g_ret ?_ | refine g_return_n ?_ | refine g_exit ?_ | refine g_skip ?_)
  first | refine o_field rfl ?_ | refine o_fieldR rfl (by omega) ?_
  refine o_loadN (v := a.id.val) rfl rfl rfl ?_
  first | refine o_field rfl ?_ | refine o_fieldR rfl (by omega) ?_
  refine o_loadN (v := b.id.val) rfl rfl rfl ?_
  refine o_call (CompareSym_spec a.id b.id) rfl rfl ?_
  rintro _ _ ⟨rfl, rfl⟩
  refine o_assign ?_
  first | refine g_endt ?_ | refine g_end ?_
  repeat (first | refine g_endt ?_ | refine g_end ?_ | refine g_then ?_ | refine g_in_normal ?_ | refine g_then_ret ?_ | refine g_in_ret ?_ | refine g_then_exit ?_ | refine g_in_exit rfl ?_ | refine g_in_exit_ne (by decide) ?_ | refine g_seq ?_ | refine g_region ?_ | refine g_block ?_ | refine g_ret ?_ | refine g_return_n ?_ | refine g_exit ?_ | refine g_skip ?_)
  refine o_move ?_
  refine o_neq rfl rfl ?_
  first | refine g_endt ?_ | refine g_end ?_
  by_cases h1 : a.id.cmp b.id = 0
  · first | refine g_seq (g_cond_f rfl (by simpa using h1) ?_) | refine g_cond_f rfl (by simpa using h1) ?_
    repeat (first | refine g_endt ?_ | refine g_end ?_ | refine g_then ?_ | refine g_in_normal ?_ | refine g_then_ret ?_ | refine g_in_ret ?_ | refine g_then_exit ?_ | refine g_in_exit rfl ?_ | refine g_in_exit_ne (by decide) ?_ | refine g_seq ?_ | refine g_region ?_ | refine g_block ?_ | refine g_ret ?_ | refine g_return_n ?_ | refine g_exit ?_ | refine g_skip ?_)
    first | refine o_field rfl ?_ | refine o_fieldR rfl (by omega) ?_
    refine o_loadN (v := a.attr.val) rfl rfl rfl ?_
    first | refine o_field rfl ?_ | refine o_fieldR rfl (by omega) ?_
    refine o_loadN (v := b.attr.val) rfl rfl rfl ?_
    refine o_call (CompareSym_spec a.attr b.attr) rfl rfl ?_
    rintro _ _ ⟨rfl, rfl⟩
    refine o_assign ?_
    first | refine g_endt ?_ | refine g_end ?_
    repeat (first | refine g_endt ?_ | refine g_end ?_ | refine g_then ?_ | refine g_in_normal ?_ | refine g_then_ret ?_ | refine g_in_ret ?_ | refine g_then_exit ?_ | refine g_in_exit rfl ?_ | refine g_in_exit_ne (by decide) ?_ | refine g_seq ?_ | refine g_region ?_ | refine g_block ?_ | refine g_ret ?_ | refine g_return_n ?_ | refine g_exit ?_ | refine g_skip ?_)
    refine o_move ?_
    refine o_neq rfl rfl ?_
    first | refine g_endt ?_ | refine g_end ?_
    by_cases h2 : a.attr.cmp b.attr = 0
    · first | refine g_seq (g_cond_f rfl (by simpa using h2) ?_) | refine g_cond_f rfl (by simpa using h2) ?_
      repeat (first | refine g_endt ?_ | refine g_end ?_ | refine g_then ?_ | refine g_in_normal ?_ | refine g_then_ret ?_ | refine g_in_ret ?_ | refine g_then_exit ?_ | refine g_in_exit rfl ?_ | refine g_in_exit_ne (by decide) ?_ | refine g_seq ?_ | refine g_region ?_ | refine g_block ?_ | refine g_ret ?_ | refine g_return_n ?_ | refine g_exit ?_ | refine g_skip ?_)
      first | refine o_field rfl ?_ | refine o_fieldR rfl (by omega) ?_
      refine o_loadN (v := a.value.val) rfl rfl rfl ?_
      first | refine o_field rfl ?_ | refine o_fieldR rfl (by omega) ?_
      refine o_loadN (v := b.value.val) rfl rfl rfl ?_
      refine o_call (CompareSym_spec a.value b.value) rfl rfl ?_
      rintro _ _ ⟨rfl, rfl⟩
      refine o_assign ?_
      first | refine g_endt ?_ | refine g_end ?_
      repeat (first | refine g_endt ?_ | refine g_end ?_ | refine g_then ?_ | refine g_in_normal ?_ | refine g_then_ret ?_ | refine g_in_ret ?_ | refine g_then_exit ?_ | refine g_in_exit rfl ?_ | refine g_in_exit_ne (by decide) ?_ | refine g_seq ?_ | refine g_region ?_ | refine g_block ?_ | refine g_ret ?_ | refine g_return_n ?_ | refine g_exit ?_ | refine g_skip ?_)
      refine o_move ?_
      refine o_neq rfl rfl ?_
      first | refine g_endt ?_ | refine g_end ?_
      by_cases h3 : a.value.cmp b.value = 0
      · first | refine g_seq (g_cond_f rfl (by simpa using h3) ?_) | refine g_cond_f rfl (by simpa using h3) ?_
        repeat (first | refine g_endt ?_ | refine g_end ?_ | refine g_then ?_ | refine g_in_normal ?_ | refine g_then_ret ?_ | refine g_in_ret ?_ | refine g_then_exit ?_ | refine g_in_exit rfl ?_ | refine g_in_exit_ne (by decide) ?_ | refine g_seq ?_ | refine g_region ?_ | refine g_block ?_ | refine g_ret ?_ | refine g_return_n ?_ | refine g_exit ?_ | refine g_skip ?_)
        first | refine o_field rfl ?_ | refine o_fieldR rfl (by omega) ?_
        refine o_load1 (v := .bool a.acc) rfl rfl ?_
        first | refine o_field rfl ?_ | refine o_fieldR rfl (by omega) ?_
        refine o_load1 (v := .bool b.acc) rfl rfl ?_
        refine o_eqty rfl rfl (eq_bool a.acc b.acc) ?_
        refine o_assign ?_
        first | refine g_endt ?_ | refine g_end ?_
        by_cases h4 : a.acc = b.acc
        · first | refine g_seq (g_cond_t rfl (by simpa using h4) ?_) | refine g_cond_t rfl (by simpa using h4) ?_
          repeat (first | refine g_endt ?_ | refine g_end ?_ | refine g_then ?_ | refine g_in_normal ?_ | refine g_then_ret ?_ | refine g_in_ret ?_ | refine g_then_exit ?_ | refine g_in_exit rfl ?_ | refine g_in_exit_ne (by decide) ?_ | refine g_seq ?_ | refine g_region ?_ | refine g_block ?_ | refine g_ret ?_ | refine g_return_n ?_ | refine g_exit ?_ | refine g_skip ?_)
          refine o_assign ?_
          first | refine g_endt ?_ | refine g_end ?_
          repeat (first | refine g_endt ?_ | refine g_end ?_ | refine g_then ?_ | refine g_in_normal ?_ | refine g_then_ret ?_ | refine g_in_ret ?_ | refine g_then_exit ?_ | refine g_in_exit rfl ?_ | refine g_in_exit_ne (by decide) ?_ | refine g_seq ?_ | refine g_region ?_ | refine g_block ?_ | refine g_ret ?_ | refine g_return_n ?_ | refine g_exit ?_ | refine g_skip ?_)
          exact ret1 rfl (resT (v := .int .i64 0) rfl) ⟨by simp [ElemD.cmp, lex, h1, h2, h3, cmpB, h4], rfl⟩
        · first | refine g_seq (g_cond_f rfl (by simpa using h4) ?_) | refine g_cond_f rfl (by simpa using h4) ?_
          repeat (first | refine g_endt ?_ | refine g_end ?_ | refine g_then ?_ | refine g_in_normal ?_ | refine g_then_ret ?_ | refine g_in_ret ?_ | refine g_then_exit ?_ | refine g_in_exit rfl ?_ | refine g_in_exit_ne (by decide) ?_ | refine g_seq ?_ | refine g_region ?_ | refine g_block ?_ | refine g_ret ?_ | refine g_return_n ?_ | refine g_exit ?_ | refine g_skip ?_)
          first | refine o_field rfl ?_ | refine o_fieldR rfl (by omega) ?_
          refine o_load1 (v := .bool b.acc) rfl rfl ?_
          refine o_assign ?_
          first | refine g_endt ?_ | refine g_end ?_
          cases hb : b.acc with
          | true =>
            first | refine g_seq (g_cond_t rfl (by first | rfl | (simp; done) | (simp; omega) | (simp; assumption)) ?_) | refine g_cond_t rfl (by first | rfl | (simp; done) | (simp; omega) | (simp; assumption)) ?_
            repeat (first | refine g_endt ?_ | refine g_end ?_ | refine g_then ?_ | refine g_in_normal ?_ | refine g_then_ret ?_ | refine g_in_ret ?_ | refine g_then_exit ?_ | refine g_in_exit rfl ?_ | refine g_in_exit_ne (by decide) ?_ | refine g_seq ?_ | refine g_region ?_ | refine g_block ?_ | refine g_ret ?_ | refine g_return_n ?_ | refine g_exit ?_ | refine g_skip ?_)
            refine o_assign ?_
            first | refine g_endt ?_ | refine g_end ?_
            repeat (first | refine g_endt ?_ | refine g_end ?_ | refine g_then ?_ | refine g_in_normal ?_ | refine g_then_ret ?_ | refine g_in_ret ?_ | refine g_then_exit ?_ | refine g_in_exit rfl ?_ | refine g_in_exit_ne (by decide) ?_ | refine g_seq ?_ | refine g_region ?_ | refine g_block ?_ | refine g_ret ?_ | refine g_return_n ?_ | refine g_exit ?_ | refine g_skip ?_)
            exact ret1 rfl (resT (v := .int .i64 (-1)) rfl) ⟨by rw [hb] at h4; simp [ElemD.cmp, lex, h1, h2, h3, cmpB, h4, hb], rfl⟩
          | false =>
            first | refine g_seq (g_cond_f rfl (by first | rfl | (simp; done) | (simp; omega) | (simp; assumption)) ?_) | refine g_cond_f rfl (by first | rfl | (simp; done) | (simp; omega) | (simp; assumption)) ?_
            repeat (first | refine g_endt ?_ | refine g_end ?_ | refine g_then ?_ | refine g_in_normal ?_ | refine g_then_ret ?_ | refine g_in_ret ?_ | refine g_then_exit ?_ | refine g_in_exit rfl ?_ | refine g_in_exit_ne (by decide) ?_ | refine g_seq ?_ | refine g_region ?_ | refine g_block ?_ | refine g_ret ?_ | refine g_return_n ?_ | refine g_exit ?_ | refine g_skip ?_)
            refine o_assign ?_
            first | refine g_endt ?_ | refine g_end ?_
            repeat (first | refine g_endt ?_ | refine g_end ?_ | refine g_then ?_ | refine g_in_normal ?_ | refine g_then_ret ?_ | refine g_in_ret ?_ | refine g_then_exit ?_ | refine g_in_exit rfl ?_ | refine g_in_exit_ne (by decide) ?_ | refine g_seq ?_ | refine g_region ?_ | refine g_block ?_ | refine g_ret ?_ | refine g_return_n ?_ | refine g_exit ?_ | refine g_skip ?_)
            exact ret1 rfl (resT (v := .int .i64 1) rfl) ⟨by rw [hb] at h4; simp [ElemD.cmp, lex, h1, h2, h3, cmpB, h4, hb], rfl⟩
      · first | refine g_seq (g_cond_t rfl (by simpa using h3) ?_) | refine g_cond_t rfl (by simpa using h3) ?_
        repeat (first | refine g_endt ?_ | refine g_end ?_ | refine g_then ?_ | refine g_in_normal ?_ | refine g_then_ret ?_ | refine g_in_ret ?_ | refine g_then_exit ?_ | refine g_in_exit rfl ?_ | refine g_in_exit_ne (by decide) ?_ | refine g_seq ?_ | refine g_region ?_ | refine g_block ?_ | refine g_ret ?_ | refine g_return_n ?_ | refine g_exit ?_ | refine g_skip ?_)
        refine o_move ?_
        refine o_assign ?_
        first | refine g_endt ?_ | refine g_end ?_
        repeat (first | refine g_endt ?_ | refine g_end ?_ | refine g_then ?_ | refine g_in_normal ?_ | refine g_then_ret ?_ | refine g_in_ret ?_ | refine g_then_exit ?_ | refine g_in_exit rfl ?_ | refine g_in_exit_ne (by decide) ?_ | refine g_seq ?_ | refine g_region ?_ | refine g_block ?_ | refine g_ret ?_ | refine g_return_n ?_ | refine g_exit ?_ | refine g_skip ?_)
        exact ret1 rfl (resT (v := .int .i64 (a.value.cmp b.value)) rfl) ⟨by simp [ElemD.cmp, lex, h1, h2, h3], rfl⟩
    · first | refine g_seq (g_cond_t rfl (by simpa using h2) ?_) | refine g_cond_t rfl (by simpa using h2) ?_
      repeat (first | refine g_endt ?_ | refine g_end ?_ | refine g_then ?_ | refine g_in_normal ?_ | refine g_then_ret ?_ | refine g_in_ret ?_ | refine g_then_exit ?_ | refine g_in_exit rfl ?_ | refine g_in_exit_ne (by decide) ?_ | refine g_seq ?_ | refine g_region ?_ | refine g_block ?_ | refine g_ret ?_ | refine g_return_n ?_ | refine g_exit ?_ | refine g_skip ?_)
      refine o_move ?_
      refine o_assign ?_
      first | refine g_endt ?_ | refine g_end ?_
      repeat (first | refine g_endt ?_ | refine g_end ?_ | refine g_then ?_ | refine g_in_normal ?_ | refine g_then_ret ?_ | refine g_in_ret ?_ | refine g_then_exit ?_ | refine g_in_exit rfl ?_ | refine g_in_exit_ne (by decide) ?_ | refine g_seq ?_ | refine g_region ?_ | refine g_block ?_ | refine g_ret ?_ | refine g_return_n ?_ | refine g_exit ?_ | refine g_skip ?_)
      exact ret1 rfl (resT (v := .int .i64 (a.attr.cmp b.attr)) rfl) ⟨by simp [ElemD.cmp, lex, h1, h2], rfl⟩
  · first | refine g_seq (g_cond_t rfl (by simpa using h1) ?_) | refine g_cond_t rfl (by simpa using h1) ?_
    repeat (first | refine g_endt ?_ | refine g_end ?_ | refine g_then ?_ | refine g_in_normal ?_ | refine g_then_ret ?_ | refine g_in_ret ?_ | refine g_then_exit ?_ | refine g_in_exit rfl ?_ | refine g_in_exit_ne (by decide) ?_ | refine g_seq ?_ | refine g_region ?_ | refine g_block ?_ | refine g_ret ?_ | refine g_return_n ?_ | refine g_exit ?_ | refine g_skip ?_)
    refine o_move ?_
    refine o_assign ?_
    first | refine g_endt ?_ | refine g_end ?_
    repeat (first | refine g_endt ?_ | refine g_end ?_ | refine g_then ?_ | refine g_in_normal ?_ | refine g_then_ret ?_ | refine g_in_ret ?_ | refine g_then_exit ?_ | refine g_in_exit rfl ?_ | refine g_in_exit_ne (by decide) ?_ | refine g_seq ?_ | refine g_region ?_ | refine g_block ?_ | refine g_ret ?_ | refine g_return_n ?_ | refine g_exit ?_ | refine g_skip ?_)
    exact ret1 rfl (resT (v := .int .i64 (a.id.cmp b.id)) rfl) ⟨by simp [ElemD.cmp, lex, h1], rfl⟩
end Go.Proofs.Ytfakoemkapankaa
/- Parts of slices that stay. Plain library, no program in sight. -/
namespace Go.Sl
open Go Go.Proofs Go.RowKit

section
variable {w0 : World} {A : SProp} {L : List SProp} {ro : Option Nat} {P : Program} {Q : Exit → Act → World → Prop} {all : Array Oper} {os : List Oper} {n : Nat} {ρ : Nat → Value} {ds : List Nat}
variable {d : Option Tmp} {ty : TypeId} {pos : String} {af : Array Edge} {x y : Operand}
variable {α : Type} {enc : α → List Value} {sz : Nat} {xs : List α} {S : Option Addr}
theorem rdE.take {h : Hp} (r : rdE S enc sz xs h) (k : Nat) : rdE S enc sz (xs.take k) h := fun i y hy => r i y (by
  rw [List.getElem?_take] at hy
  split at hy
  · exact hy
  · cases hy)
/-- Where 's[k:]' begins. -/
def offA (S : Option Addr) (c k sz : Nat) : Option Addr := if c = k then S else S.map (·.add (k * sz))
theorem rdE.drop {h : Hp} (r : rdE S enc sz xs h) (c k : Nat) (hc : xs.length ≤ c) : rdE (offA S c k sz) enc sz (xs.drop k) h := fun i y hy => by
  rw [List.getElem?_drop] at hy
  have hlt : k + i < xs.length := (List.getElem?_eq_some_iff.1 hy).1
  obtain ⟨b, o, rfl, hu⟩ := r (k + i) y hy
  refine ⟨b, o + k * sz, ?_, fun j u hj => ?_⟩
  · unfold offA
    rw [if_neg (by omega)]
    simp [add_off]
  · have := hu j u hj
    rwa [show o + ((k + i) * sz + j) = o + k * sz + (i * sz + j) by rw [Nat.add_mul]; omega] at this
theorem psl_take_ent (k : Nat) {M : List SProp} [tk : Take1 L (psl enc sz S xs) M] : Ent (sl L) (star (psl enc sz S (xs.take k)) (sl L)) := by
  refine (sl_perm tk.perm).trans (Ent.trans ?_ ((Ent.refl _).star (sl_perm tk.perm.symm)))
  exact fun B h ⟨k1, k2, d, l1, l2, x, y⟩ => ⟨hnil, h, (Dj.nil _).symm, .nil _, .refl _, rdE.take x k, k1, k2, d, l1, l2, x, y⟩
theorem psl_drop_ent (c k : Nat) (hc : xs.length ≤ c) {M : List SProp} [tk : Take1 L (psl enc sz S xs) M] : Ent (sl L) (star (psl enc sz (offA S c k sz) (xs.drop k)) (sl L)) := by
  refine (sl_perm tk.perm).trans (Ent.trans ?_ ((Ent.refl _).star (sl_perm tk.perm.symm)))
  exact fun B h ⟨k1, k2, d, l1, l2, x, y⟩ => ⟨hnil, h, (Dj.nil _).symm, .nil _, .refl _, rdE.drop x c k hc, k1, k2, d, l1, l2, x, y⟩
/-- 's[:k]'. -/
theorem o_uptoP {t e : TypeId} {sz' c len k : Nat} {kd : IntKind} {m : Int} (hx : ev n ρ x = .slice S len c) (hy : ev n ρ y = .int kd m) (hm : m = (k : Int)) [st : SlTy P t e sz'] (hc : k ≤ c)
    (h : G w0 A L (fun w => runL ro P all Q os (act n (updo ρ d (.slice S k c)) ds) w)) :
    G w0 A L (fun w => runL ro P all Q ({ dst := d, op := .slice t x none (some y) none, type := ty, pos := pos, after := af, guard := none } :: os) (act n ρ ds) w) := by
  subst hm
  refine o_val (v := .slice S k c) rfl (by intro c e; cases e) (fun w hw hh => ?_) h
  simp only [execOp]
  refine run_v ?_
  have hkc : (k : Int) ≤ (c : Int) := by omega
  simp only [Option.map_none, Option.map_some, hx, hy]
  simp [Instr.sliceAt, Instr.slice, run_underlying st.ty, Instr.sliceBounds, Instr.sliceBound, asIntOf, st.size]
  rw [if_pos hc]
  cases S <;> simp [Addr.add]
/-- 's[k:]'. -/
theorem o_fromP {t e : TypeId} {sz' c len k : Nat} {kd : IntKind} {m : Int} (hx : ev n ρ x = .slice S len c) (hy : ev n ρ y = .int kd m) (hm : m = (k : Int)) [st : SlTy P t e sz'] (hk : k ≤ len)
    (h : G w0 A L (fun w => runL ro P all Q os (act n (updo ρ d (.slice (offA S c k sz') (len - k) (c - k))) ds) w)) :
    G w0 A L (fun w => runL ro P all Q ({ dst := d, op := .slice t x (some y) none none, type := ty, pos := pos, after := af, guard := none } :: os) (act n ρ ds) w) := by
  subst hm
  refine o_val (v := .slice (offA S c k sz') (len - k) (c - k)) rfl (by intro c e; cases e) (fun w hw hh => ?_) h
  simp only [execOp]
  refine run_v ?_
  simp only [Option.map_none, Option.map_some, hx, hy]
  simp [Instr.sliceAt, Instr.slice, run_underlying st.ty, Instr.sliceBounds, Instr.sliceBound, asIntOf, st.size, offA]
  exact fun hlt => absurd hlt (by omega)
theorem G.taken (k : Nat) {M : List SProp} {Φ : World → Prop} [tk : Take1 L (psl enc sz S xs) M] (h : G w0 A (psl enc sz S (xs.take k) :: L) Φ) : G w0 A L Φ := G.ent (L := L) (L' := psl enc sz S (xs.take k) :: L) (psl_take_ent k) h
theorem G.dropped (c k : Nat) (hc : xs.length ≤ c) {M : List SProp} {Φ : World → Prop} [tk : Take1 L (psl enc sz S xs) M] (h : G w0 A (psl enc sz (offA S c k sz) (xs.drop k) :: L) Φ) : G w0 A L Φ :=
  G.ent (L := L) (L' := psl enc sz (offA S c k sz) (xs.drop k) :: L) (psl_drop_ent c k hc) h
/-- A cut behind a block (a loop, say), where what follows stands in the exit already. -/
theorem g_cutb {F : Fence} {m : Nat} {σ : Type} {n : Nat} {ρ : Nat → Value} {ds ds' : List Nat} {x : Code} {id : Nat} {K : Act → World → Prop} (T : σ → List (Nat × Value)) (H : σ → List SProp) (ok : σ → Prop)
    (h : G w0 A L (fun w => x.wpIn F m P (Exit.inBlock id (Exit.then (Meets w0 A n ds' T H ok) Q)) (act n ρ ds) w))
    (k : ∀ s ρ', ok s → G w0 A (H s) (fun w => K (act n (updl ρ' (T s)) ds') w)) : G w0 A L (fun w => x.wpIn F m P (Exit.inBlock id (Exit.then K Q)) (act n ρ ds) w) := by
  refine h.mono fun _ hw => wpIn_mono hw ?_
  intro e a w' hq
  cases e with
  | normal => exact Meets.elim (Φ := K) hq k
  | exit j =>
    simp only [Exit.inBlock] at hq ⊢
    split at hq
    · rename_i hj; rw [if_pos hj]; exact Meets.elim (Φ := K) hq k
    · rename_i hj; rw [if_neg hj]; exact hq
  | _ => exact hq
end
end Go.Sl
