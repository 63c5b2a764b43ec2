/- The facts on types and functions of this translation that the walk looks up. Written by gen_ty.py. -/
import Derived.Test.YthledhcealmkbaaProg
import Derived.Test.YthledhcealmkbaaSl6
import Derived.KernelRfl
namespace Go.Proofs.Ythledhcealmkbaa
open Go Go.Sl

theorem mixed : Try.prog.follows .mixedOrders = true := by kernel_rfl
instance : TyS Try.prog 1 := ⟨fun w => by kernel_rfl, fun w => by kernel_rfl⟩
instance : TyZ Try.prog 1 (.nilFunc) := ⟨fun w => by kernel_rfl⟩
instance : TyS Try.prog 2 := ⟨fun w => by kernel_rfl, fun w => by kernel_rfl⟩
instance : TyZ Try.prog 2 (.int .i64 0) := ⟨fun w => by kernel_rfl⟩
instance : TyS Try.prog 3 := ⟨fun w => by kernel_rfl, fun w => by kernel_rfl⟩
instance : TyZ Try.prog 3 (.int .i64 0) := ⟨fun w => by kernel_rfl⟩
instance : TyS Try.prog 4 := ⟨fun w => by kernel_rfl, fun w => by kernel_rfl⟩
instance : TyZ Try.prog 4 (.bool false) := ⟨fun w => by kernel_rfl⟩
instance : TyS Try.prog 5 := ⟨fun w => by kernel_rfl, fun w => by kernel_rfl⟩
instance : TyZ Try.prog 5 (.int .u8 0) := ⟨fun w => by kernel_rfl⟩
instance : TyS Try.prog 6 := ⟨fun w => by kernel_rfl, fun w => by kernel_rfl⟩
instance : TyZ Try.prog 6 (.int .u8 0) := ⟨fun w => by kernel_rfl⟩
instance : TyS Try.prog 9 := ⟨fun w => by kernel_rfl, fun w => by kernel_rfl⟩
instance : TyZ Try.prog 9 (.string ByteArray.empty) := ⟨fun w => by kernel_rfl⟩
instance : TyS Try.prog 10 := ⟨fun w => by kernel_rfl, fun w => by kernel_rfl⟩
instance : TyZ Try.prog 10 (.string ByteArray.empty) := ⟨fun w => by kernel_rfl⟩
instance : TyS Try.prog 11 := ⟨fun w => by kernel_rfl, fun w => by kernel_rfl⟩
instance : TyZ Try.prog 11 (.string ByteArray.empty) := ⟨fun w => by kernel_rfl⟩
instance : TyS Try.prog 12 := ⟨fun w => by kernel_rfl, fun w => by kernel_rfl⟩
instance : TyZ Try.prog 12 (.int .u64 0) := ⟨fun w => by kernel_rfl⟩
instance : TyS Try.prog 15 := ⟨fun w => by kernel_rfl, fun w => by kernel_rfl⟩
instance : TyZ Try.prog 15 (.pointer none) := ⟨fun w => by kernel_rfl⟩
instance : PtrTy Try.prog 15 := ⟨⟨57, by kernel_rfl⟩⟩
instance : TyS Try.prog 16 := ⟨fun w => by kernel_rfl, fun w => by kernel_rfl⟩
instance : TyZ Try.prog 16 (.pointer none) := ⟨fun w => by kernel_rfl⟩
instance : PtrTy Try.prog 16 := ⟨⟨60, by kernel_rfl⟩⟩
instance : TyS Try.prog 17 := ⟨fun w => by kernel_rfl, fun w => by kernel_rfl⟩
instance : TyZ Try.prog 17 (.pointer none) := ⟨fun w => by kernel_rfl⟩
instance : PtrTy Try.prog 17 := ⟨⟨70, by kernel_rfl⟩⟩
instance : TyS Try.prog 21 := ⟨fun w => by kernel_rfl, fun w => by kernel_rfl⟩
instance : TyZ Try.prog 21 (.int .i32 0) := ⟨fun w => by kernel_rfl⟩
instance : TyS Try.prog 22 := ⟨fun w => by kernel_rfl, fun w => by kernel_rfl⟩
instance : TyZ Try.prog 22 (.slice none 0 0) := ⟨fun w => by kernel_rfl⟩
instance : SlTy Try.prog 22 3 1 := ⟨by kernel_rfl, fun w => by kernel_rfl⟩
instance : ApTy Try.prog 22 3 1 8 := .of (by kernel_rfl) (by kernel_rfl) (by decide)
instance : TyS Try.prog 23 := ⟨fun w => by kernel_rfl, fun w => by kernel_rfl⟩
instance : TyZ Try.prog 23 (.nilFunc) := ⟨fun w => by kernel_rfl⟩
instance : TyS Try.prog 24 := ⟨fun w => by kernel_rfl, fun w => by kernel_rfl⟩
instance : TyZ Try.prog 24 (.nilFunc) := ⟨fun w => by kernel_rfl⟩
instance : TyS Try.prog 25 := ⟨fun w => by kernel_rfl, fun w => by kernel_rfl⟩
instance : TyZ Try.prog 25 (.nilFunc) := ⟨fun w => by kernel_rfl⟩
instance : TyS Try.prog 26 := ⟨fun w => by kernel_rfl, fun w => by kernel_rfl⟩
instance : TyZ Try.prog 26 (.nilFunc) := ⟨fun w => by kernel_rfl⟩
instance : TyS Try.prog 27 := ⟨fun w => by kernel_rfl, fun w => by kernel_rfl⟩
instance : TyZ Try.prog 27 (.nilFunc) := ⟨fun w => by kernel_rfl⟩
instance : TyS Try.prog 28 := ⟨fun w => by kernel_rfl, fun w => by kernel_rfl⟩
instance : TyZ Try.prog 28 (.nilFunc) := ⟨fun w => by kernel_rfl⟩
instance : TyS Try.prog 29 := ⟨fun w => by kernel_rfl, fun w => by kernel_rfl⟩
instance : TyZ Try.prog 29 (.nilFunc) := ⟨fun w => by kernel_rfl⟩
instance : TyS Try.prog 30 := ⟨fun w => by kernel_rfl, fun w => by kernel_rfl⟩
instance : TyZ Try.prog 30 (.slice none 0 0) := ⟨fun w => by kernel_rfl⟩
instance : SlTy Try.prog 30 35 12 := ⟨by kernel_rfl, fun w => by kernel_rfl⟩
instance : ApTy Try.prog 30 35 12 112 := .of (by kernel_rfl) (by kernel_rfl) (by decide)
instance : TyS Try.prog 31 := ⟨fun w => by kernel_rfl, fun w => by kernel_rfl⟩
instance : TyZ Try.prog 31 (.nilFunc) := ⟨fun w => by kernel_rfl⟩
instance : TyA Try.prog 32 3 := ⟨fun w => by kernel_rfl, fun w => by kernel_rfl⟩
instance : FieldOff Try.prog 32 0 0 := ⟨fun b k w => by kernel_rfl⟩
instance : FieldOff Try.prog 32 1 1 := ⟨fun b k w => by kernel_rfl⟩
instance : FieldOff Try.prog 32 2 2 := ⟨fun b k w => by kernel_rfl⟩
instance : TyZ Try.prog 32 ((.agg #[.int .i64 0, .string ByteArray.empty, .int .i64 0])) := ⟨fun w => by kernel_rfl⟩
instance : TyA Try.prog 33 3 := ⟨fun w => by kernel_rfl, fun w => by kernel_rfl⟩
instance : FieldOff Try.prog 33 0 0 := ⟨fun b k w => by kernel_rfl⟩
instance : FieldOff Try.prog 33 1 1 := ⟨fun b k w => by kernel_rfl⟩
instance : FieldOff Try.prog 33 2 2 := ⟨fun b k w => by kernel_rfl⟩
instance : TyZ Try.prog 33 ((.agg #[.int .i64 0, .string ByteArray.empty, .int .i64 0])) := ⟨fun w => by kernel_rfl⟩
instance : TyA Try.prog 34 12 := ⟨fun w => by kernel_rfl, fun w => by kernel_rfl⟩
instance : FieldOff Try.prog 34 0 0 := ⟨fun b k w => by kernel_rfl⟩
instance : FieldOff Try.prog 34 1 3 := ⟨fun b k w => by kernel_rfl⟩
instance : FieldOff Try.prog 34 2 6 := ⟨fun b k w => by kernel_rfl⟩
instance : FieldOff Try.prog 34 3 9 := ⟨fun b k w => by kernel_rfl⟩
instance : FieldOff Try.prog 34 4 10 := ⟨fun b k w => by kernel_rfl⟩
instance : FieldOff Try.prog 34 5 11 := ⟨fun b k w => by kernel_rfl⟩
instance : TyZ Try.prog 34 ((.agg #[.int .i64 0, .string ByteArray.empty, .int .i64 0, .int .i64 0, .string ByteArray.empty, .int .i64 0, .int .i64 0, .string ByteArray.empty, .int .i64 0, .bool false, .bool false, .int .i64 0])) := ⟨fun w => by kernel_rfl⟩
instance : TyA Try.prog 35 12 := ⟨fun w => by kernel_rfl, fun w => by kernel_rfl⟩
instance : FieldOff Try.prog 35 0 0 := ⟨fun b k w => by kernel_rfl⟩
instance : FieldOff Try.prog 35 1 3 := ⟨fun b k w => by kernel_rfl⟩
instance : FieldOff Try.prog 35 2 6 := ⟨fun b k w => by kernel_rfl⟩
instance : FieldOff Try.prog 35 3 9 := ⟨fun b k w => by kernel_rfl⟩
instance : FieldOff Try.prog 35 4 10 := ⟨fun b k w => by kernel_rfl⟩
instance : FieldOff Try.prog 35 5 11 := ⟨fun b k w => by kernel_rfl⟩
instance : TyZ Try.prog 35 ((.agg #[.int .i64 0, .string ByteArray.empty, .int .i64 0, .int .i64 0, .string ByteArray.empty, .int .i64 0, .int .i64 0, .string ByteArray.empty, .int .i64 0, .bool false, .bool false, .int .i64 0])) := ⟨fun w => by kernel_rfl⟩
instance : TyS Try.prog 36 := ⟨fun w => by kernel_rfl, fun w => by kernel_rfl⟩
instance : TyZ Try.prog 36 (.nilFunc) := ⟨fun w => by kernel_rfl⟩
instance : TyS Try.prog 37 := ⟨fun w => by kernel_rfl, fun w => by kernel_rfl⟩
instance : TyZ Try.prog 37 (.nilFunc) := ⟨fun w => by kernel_rfl⟩
instance : TyS Try.prog 38 := ⟨fun w => by kernel_rfl, fun w => by kernel_rfl⟩
instance : TyZ Try.prog 38 (.nilFunc) := ⟨fun w => by kernel_rfl⟩
instance : TyS Try.prog 39 := ⟨fun w => by kernel_rfl, fun w => by kernel_rfl⟩
instance : TyZ Try.prog 39 (.nilFunc) := ⟨fun w => by kernel_rfl⟩
instance : TyS Try.prog 40 := ⟨fun w => by kernel_rfl, fun w => by kernel_rfl⟩
instance : TyZ Try.prog 40 (.nilFunc) := ⟨fun w => by kernel_rfl⟩
instance : TyS Try.prog 41 := ⟨fun w => by kernel_rfl, fun w => by kernel_rfl⟩
instance : TyZ Try.prog 41 (.nilFunc) := ⟨fun w => by kernel_rfl⟩
instance : TyS Try.prog 42 := ⟨fun w => by kernel_rfl, fun w => by kernel_rfl⟩
instance : TyZ Try.prog 42 (.nilFunc) := ⟨fun w => by kernel_rfl⟩
instance : TyS Try.prog 43 := ⟨fun w => by kernel_rfl, fun w => by kernel_rfl⟩
instance : TyZ Try.prog 43 (.nilFunc) := ⟨fun w => by kernel_rfl⟩
instance : TyS Try.prog 44 := ⟨fun w => by kernel_rfl, fun w => by kernel_rfl⟩
instance : TyZ Try.prog 44 (.nilFunc) := ⟨fun w => by kernel_rfl⟩
instance : TyS Try.prog 45 := ⟨fun w => by kernel_rfl, fun w => by kernel_rfl⟩
instance : TyZ Try.prog 45 (.nilFunc) := ⟨fun w => by kernel_rfl⟩
instance : TyA Try.prog 46 16 := ⟨fun w => by kernel_rfl, fun w => by kernel_rfl⟩
instance : FieldOff Try.prog 46 0 0 := ⟨fun b k w => by kernel_rfl⟩
instance : FieldOff Try.prog 46 1 3 := ⟨fun b k w => by kernel_rfl⟩
instance : FieldOff Try.prog 46 2 6 := ⟨fun b k w => by kernel_rfl⟩
instance : FieldOff Try.prog 46 3 9 := ⟨fun b k w => by kernel_rfl⟩
instance : FieldOff Try.prog 46 4 12 := ⟨fun b k w => by kernel_rfl⟩
instance : FieldOff Try.prog 46 5 13 := ⟨fun b k w => by kernel_rfl⟩
instance : FieldOff Try.prog 46 6 14 := ⟨fun b k w => by kernel_rfl⟩
instance : FieldOff Try.prog 46 7 15 := ⟨fun b k w => by kernel_rfl⟩
instance : TyZ Try.prog 46 ((.agg #[.int .i64 0, .string ByteArray.empty, .int .i64 0, .int .i64 0, .string ByteArray.empty, .int .i64 0, .int .i64 0, .string ByteArray.empty, .int .i64 0, .int .i64 0, .string ByteArray.empty, .int .i64 0, .int .i64 0, .bool false, .int .i64 0, .int .i64 0])) := ⟨fun w => by kernel_rfl⟩
instance : TyA Try.prog 47 16 := ⟨fun w => by kernel_rfl, fun w => by kernel_rfl⟩
instance : FieldOff Try.prog 47 0 0 := ⟨fun b k w => by kernel_rfl⟩
instance : FieldOff Try.prog 47 1 3 := ⟨fun b k w => by kernel_rfl⟩
instance : FieldOff Try.prog 47 2 6 := ⟨fun b k w => by kernel_rfl⟩
instance : FieldOff Try.prog 47 3 9 := ⟨fun b k w => by kernel_rfl⟩
instance : FieldOff Try.prog 47 4 12 := ⟨fun b k w => by kernel_rfl⟩
instance : FieldOff Try.prog 47 5 13 := ⟨fun b k w => by kernel_rfl⟩
instance : FieldOff Try.prog 47 6 14 := ⟨fun b k w => by kernel_rfl⟩
instance : FieldOff Try.prog 47 7 15 := ⟨fun b k w => by kernel_rfl⟩
instance : TyZ Try.prog 47 ((.agg #[.int .i64 0, .string ByteArray.empty, .int .i64 0, .int .i64 0, .string ByteArray.empty, .int .i64 0, .int .i64 0, .string ByteArray.empty, .int .i64 0, .int .i64 0, .string ByteArray.empty, .int .i64 0, .int .i64 0, .bool false, .int .i64 0, .int .i64 0])) := ⟨fun w => by kernel_rfl⟩
instance : TyS Try.prog 48 := ⟨fun w => by kernel_rfl, fun w => by kernel_rfl⟩
instance : TyZ Try.prog 48 (.nilFunc) := ⟨fun w => by kernel_rfl⟩
instance : TyS Try.prog 49 := ⟨fun w => by kernel_rfl, fun w => by kernel_rfl⟩
instance : TyZ Try.prog 49 (.nilFunc) := ⟨fun w => by kernel_rfl⟩
instance : TyS Try.prog 50 := ⟨fun w => by kernel_rfl, fun w => by kernel_rfl⟩
instance : TyZ Try.prog 50 (.nilFunc) := ⟨fun w => by kernel_rfl⟩
instance : TyS Try.prog 51 := ⟨fun w => by kernel_rfl, fun w => by kernel_rfl⟩
instance : TyZ Try.prog 51 (.nilFunc) := ⟨fun w => by kernel_rfl⟩
instance : TyS Try.prog 52 := ⟨fun w => by kernel_rfl, fun w => by kernel_rfl⟩
instance : TyZ Try.prog 52 (.nilFunc) := ⟨fun w => by kernel_rfl⟩
instance : TyS Try.prog 53 := ⟨fun w => by kernel_rfl, fun w => by kernel_rfl⟩
instance : TyZ Try.prog 53 (.nilFunc) := ⟨fun w => by kernel_rfl⟩
instance : TyS Try.prog 54 := ⟨fun w => by kernel_rfl, fun w => by kernel_rfl⟩
instance : TyZ Try.prog 54 (.nilFunc) := ⟨fun w => by kernel_rfl⟩
instance : TyS Try.prog 55 := ⟨fun w => by kernel_rfl, fun w => by kernel_rfl⟩
instance : TyZ Try.prog 55 (.nilFunc) := ⟨fun w => by kernel_rfl⟩
instance : TyS Try.prog 61 := ⟨fun w => by kernel_rfl, fun w => by kernel_rfl⟩
instance : TyZ Try.prog 61 (.nilFunc) := ⟨fun w => by kernel_rfl⟩
instance : TyS Try.prog 62 := ⟨fun w => by kernel_rfl, fun w => by kernel_rfl⟩
instance : TyZ Try.prog 62 (.int .u32 0) := ⟨fun w => by kernel_rfl⟩
instance : TyS Try.prog 63 := ⟨fun w => by kernel_rfl, fun w => by kernel_rfl⟩
instance : TyZ Try.prog 63 (.int .u8 0) := ⟨fun w => by kernel_rfl⟩
instance : TyS Try.prog 64 := ⟨fun w => by kernel_rfl, fun w => by kernel_rfl⟩
instance : TyZ Try.prog 64 (.int .u8 0) := ⟨fun w => by kernel_rfl⟩
instance : TyS Try.prog 65 := ⟨fun w => by kernel_rfl, fun w => by kernel_rfl⟩
instance : TyZ Try.prog 65 (.nilFunc) := ⟨fun w => by kernel_rfl⟩
instance : TyS Try.prog 66 := ⟨fun w => by kernel_rfl, fun w => by kernel_rfl⟩
instance : TyZ Try.prog 66 (.pointer none) := ⟨fun w => by kernel_rfl⟩
instance : PtrTy Try.prog 66 := ⟨⟨5, by kernel_rfl⟩⟩
instance : TyS Try.prog 67 := ⟨fun w => by kernel_rfl, fun w => by kernel_rfl⟩
instance : TyZ Try.prog 67 (.int .i32 0) := ⟨fun w => by kernel_rfl⟩
instance : TyS Try.prog 68 := ⟨fun w => by kernel_rfl, fun w => by kernel_rfl⟩
instance : TyZ Try.prog 68 (.int .i32 0) := ⟨fun w => by kernel_rfl⟩
instance : TyS Try.prog 71 := ⟨fun w => by kernel_rfl, fun w => by kernel_rfl⟩
instance : TyZ Try.prog 71 (.nilFunc) := ⟨fun w => by kernel_rfl⟩
instance : TyS Try.prog 72 := ⟨fun w => by kernel_rfl, fun w => by kernel_rfl⟩
instance : TyZ Try.prog 72 (.nilFunc) := ⟨fun w => by kernel_rfl⟩
instance : En Try.prog 3 := ⟨enters_of Try.func3 (by kernel_rfl) rfl⟩
instance : En Try.prog 4 := ⟨enters_of Try.func4 (by kernel_rfl) rfl⟩
instance : En Try.prog 5 := ⟨enters_of Try.func5 (by kernel_rfl) rfl⟩
instance : En Try.prog 6 := ⟨enters_of Try.func6 (by kernel_rfl) rfl⟩
instance : En Try.prog 7 := ⟨enters_of Try.func7 (by kernel_rfl) rfl⟩
instance : En Try.prog 8 := ⟨enters_of Try.func8 (by kernel_rfl) rfl⟩
instance : En Try.prog 9 := ⟨enters_of Try.func9 (by kernel_rfl) rfl⟩
instance : En Try.prog 10 := ⟨enters_of Try.func10 (by kernel_rfl) rfl⟩
instance : En Try.prog 11 := ⟨enters_of Try.func11 (by kernel_rfl) rfl⟩
instance : En Try.prog 12 := ⟨enters_of Try.func12 (by kernel_rfl) rfl⟩
instance : En Try.prog 13 := ⟨enters_of Try.func13 (by kernel_rfl) rfl⟩
instance : En Try.prog 14 := ⟨enters_of Try.func14 (by kernel_rfl) rfl⟩
instance : En Try.prog 15 := ⟨enters_of Try.func15 (by kernel_rfl) rfl⟩
instance : En Try.prog 16 := ⟨enters_of Try.func16 (by kernel_rfl) rfl⟩
instance : En Try.prog 17 := ⟨enters_of Try.func17 (by kernel_rfl) rfl⟩
instance : En Try.prog 18 := ⟨enters_of Try.func18 (by kernel_rfl) rfl⟩
instance : En Try.prog 19 := ⟨enters_of Try.func19 (by kernel_rfl) rfl⟩
instance : En Try.prog 20 := ⟨enters_of Try.func20 (by kernel_rfl) rfl⟩
instance : En Try.prog 21 := ⟨enters_of Try.func21 (by kernel_rfl) rfl⟩
instance : En Try.prog 22 := ⟨enters_of Try.func22 (by kernel_rfl) rfl⟩
instance : En Try.prog 23 := ⟨enters_of Try.func23 (by kernel_rfl) rfl⟩
instance : En Try.prog 24 := ⟨enters_of Try.func24 (by kernel_rfl) rfl⟩
instance : En Try.prog 25 := ⟨enters_of Try.func25 (by kernel_rfl) rfl⟩
instance : En Try.prog 26 := ⟨enters_of Try.func26 (by kernel_rfl) rfl⟩
instance : En Try.prog 27 := ⟨enters_of Try.func27 (by kernel_rfl) rfl⟩
instance : En Try.prog 28 := ⟨enters_of Try.func28 (by kernel_rfl) rfl⟩
instance : En Try.prog 29 := ⟨enters_of Try.func29 (by kernel_rfl) rfl⟩
instance : En Try.prog 30 := ⟨enters_of Try.func30 (by kernel_rfl) rfl⟩
instance : En Try.prog 31 := ⟨enters_of Try.func31 (by kernel_rfl) rfl⟩
end Go.Proofs.Ythledhcealmkbaa
