/- Closed facts on the program: written by specs1.py. -/
import Derived.Test.YtcjaodddckbciaaCodecC
import Derived.Test.YtcjaodddckbciaaEng9
import Derived.Test.YtcjaodddckbciaaRows
namespace Go.Proofs.Ytcjaodddckbciaa
open Go.Eng

theorem app_22 : AppTy Try.prog 22 35 12 128 := AppTy.mk Try.underlying22 (by kernel_rfl) (by decide)
theorem app_23 : AppTy Try.prog 23 5 1 1 := AppTy.mk Try.underlying23 (by kernel_rfl) (by decide)
theorem app_33 : AppTy Try.prog 33 3 1 8 := AppTy.mk Try.underlying33 (by kernel_rfl) (by decide)
theorem app_58 : AppTy Try.prog 58 57 1 8 := AppTy.mk Try.underlying58 (by kernel_rfl) (by decide)
theorem fld_32_0 : FieldAt Try.prog 32 0 0 := FieldAt.mk Try.underlying32 rfl (by kernel_rfl) rfl
theorem fld_32_1 : FieldAt Try.prog 32 1 1 := FieldAt.mk Try.underlying32 rfl (by kernel_rfl) rfl
theorem fld_32_2 : FieldAt Try.prog 32 2 2 := FieldAt.mk Try.underlying32 rfl (by kernel_rfl) rfl
theorem fld_32_3 : FieldAt Try.prog 32 3 3 := FieldAt.mk Try.underlying32 rfl (by kernel_rfl) rfl
theorem fld_32_4 : FieldAt Try.prog 32 4 4 := FieldAt.mk Try.underlying32 rfl (by kernel_rfl) rfl
theorem fld_32_5 : FieldAt Try.prog 32 5 5 := FieldAt.mk Try.underlying32 rfl (by kernel_rfl) rfl
theorem fld_35_0 : FieldAt Try.prog 35 0 0 := FieldAt.mk Try.underlying35 rfl (by kernel_rfl) rfl
theorem fld_35_1 : FieldAt Try.prog 35 1 1 := FieldAt.mk Try.underlying35 rfl (by kernel_rfl) rfl
theorem fld_35_2 : FieldAt Try.prog 35 2 2 := FieldAt.mk Try.underlying35 rfl (by kernel_rfl) rfl
theorem fld_35_3 : FieldAt Try.prog 35 3 3 := FieldAt.mk Try.underlying35 rfl (by kernel_rfl) rfl
theorem fld_35_4 : FieldAt Try.prog 35 4 4 := FieldAt.mk Try.underlying35 rfl (by kernel_rfl) rfl
theorem fld_35_5 : FieldAt Try.prog 35 5 5 := FieldAt.mk Try.underlying35 rfl (by kernel_rfl) rfl
theorem fld_35_6 : FieldAt Try.prog 35 6 11 := FieldAt.mk Try.underlying35 rfl (by kernel_rfl) rfl
theorem fld_54_0 : FieldAt Try.prog 54 0 0 := FieldAt.mk Try.underlying54 rfl (by kernel_rfl) rfl
theorem fld_54_1 : FieldAt Try.prog 54 1 1 := FieldAt.mk Try.underlying54 rfl (by kernel_rfl) rfl
theorem fld_54_2 : FieldAt Try.prog 54 2 2 := FieldAt.mk Try.underlying54 rfl (by kernel_rfl) rfl
theorem mixed : Try.prog.follows .mixedOrders = true := by kernel_rfl
theorem ok_10 : FnOk Try.prog 10 := ⟨⟨_, Try.func10, by kernel_rfl, rfl⟩⟩
theorem ok_11 : FnOk Try.prog 11 := ⟨⟨_, Try.func11, by kernel_rfl, rfl⟩⟩
theorem ok_12 : FnOk Try.prog 12 := ⟨⟨_, Try.func12, by kernel_rfl, rfl⟩⟩
theorem ok_13 : FnOk Try.prog 13 := ⟨⟨_, Try.func13, by kernel_rfl, rfl⟩⟩
theorem ok_14 : FnOk Try.prog 14 := ⟨⟨_, Try.func14, by kernel_rfl, rfl⟩⟩
theorem ok_15 : FnOk Try.prog 15 := ⟨⟨_, Try.func15, by kernel_rfl, rfl⟩⟩
theorem ok_16 : FnOk Try.prog 16 := ⟨⟨_, Try.func16, by kernel_rfl, rfl⟩⟩
theorem ok_17 : FnOk Try.prog 17 := ⟨⟨_, Try.func17, by kernel_rfl, rfl⟩⟩
theorem ok_18 : FnOk Try.prog 18 := ⟨⟨_, Try.func18, by kernel_rfl, rfl⟩⟩
theorem ok_19 : FnOk Try.prog 19 := ⟨⟨_, Try.func19, by kernel_rfl, rfl⟩⟩
theorem ok_20 : FnOk Try.prog 20 := ⟨⟨_, Try.func20, by kernel_rfl, rfl⟩⟩
theorem ok_21 : FnOk Try.prog 21 := ⟨⟨_, Try.func21, by kernel_rfl, rfl⟩⟩
theorem ok_22 : FnOk Try.prog 22 := ⟨⟨_, Try.func22, by kernel_rfl, rfl⟩⟩
theorem ok_23 : FnOk Try.prog 23 := ⟨⟨_, Try.func23, by kernel_rfl, rfl⟩⟩
theorem ok_24 : FnOk Try.prog 24 := ⟨⟨_, Try.func24, by kernel_rfl, rfl⟩⟩
theorem ok_25 : FnOk Try.prog 25 := ⟨⟨_, Try.func25, by kernel_rfl, rfl⟩⟩
theorem ok_26 : FnOk Try.prog 26 := ⟨⟨_, Try.func26, by kernel_rfl, rfl⟩⟩
theorem ok_27 : FnOk Try.prog 27 := ⟨⟨_, Try.func27, by kernel_rfl, rfl⟩⟩
theorem ok_28 : FnOk Try.prog 28 := ⟨⟨_, Try.func28, by kernel_rfl, rfl⟩⟩
theorem ok_29 : FnOk Try.prog 29 := ⟨⟨_, Try.func29, by kernel_rfl, rfl⟩⟩
theorem ok_30 : FnOk Try.prog 30 := ⟨⟨_, Try.func30, by kernel_rfl, rfl⟩⟩
theorem ok_31 : FnOk Try.prog 31 := ⟨⟨_, Try.func31, by kernel_rfl, rfl⟩⟩
theorem ok_32 : FnOk Try.prog 32 := ⟨⟨_, Try.func32, by kernel_rfl, rfl⟩⟩
theorem ok_33 : FnOk Try.prog 33 := ⟨⟨_, Try.func33, by kernel_rfl, rfl⟩⟩
theorem ok_34 : FnOk Try.prog 34 := ⟨⟨_, Try.func34, by kernel_rfl, rfl⟩⟩
theorem ok_35 : FnOk Try.prog 35 := ⟨⟨_, Try.func35, by kernel_rfl, rfl⟩⟩
theorem ok_5 : FnOk Try.prog 5 := ⟨⟨_, Try.func5, by kernel_rfl, rfl⟩⟩
theorem ok_6 : FnOk Try.prog 6 := ⟨⟨_, Try.func6, by kernel_rfl, rfl⟩⟩
theorem ok_7 : FnOk Try.prog 7 := ⟨⟨_, Try.func7, by kernel_rfl, rfl⟩⟩
theorem ok_8 : FnOk Try.prog 8 := ⟨⟨_, Try.func8, by kernel_rfl, rfl⟩⟩
theorem ok_9 : FnOk Try.prog 9 := ⟨⟨_, Try.func9, by kernel_rfl, rfl⟩⟩
theorem one_23 : OneTy Try.prog 23 := ⟨⟨_, Try.underlying23, rfl⟩, by kernel_rfl⟩
theorem one_24 : OneTy Try.prog 24 := ⟨⟨_, Try.underlying24, rfl⟩, by kernel_rfl⟩
theorem one_3 : OneTy Try.prog 3 := ⟨⟨_, Try.underlying3, rfl⟩, by kernel_rfl⟩
theorem one_33 : OneTy Try.prog 33 := ⟨⟨_, Try.underlying33, rfl⟩, by kernel_rfl⟩
theorem one_44 : OneTy Try.prog 44 := ⟨⟨_, Try.underlying44, rfl⟩, by kernel_rfl⟩
theorem one_5 : OneTy Try.prog 5 := ⟨⟨_, Try.underlying5, rfl⟩, by kernel_rfl⟩
theorem one_57 : OneTy Try.prog 57 := ⟨⟨_, Try.underlying57, rfl⟩, by kernel_rfl⟩
theorem one_9 : OneTy Try.prog 9 := ⟨⟨_, Try.underlying9, rfl⟩, by kernel_rfl⟩
theorem row_32 : RowTy Try.prog 32 6 := ⟨⟨_, Try.underlying32, rfl⟩, by kernel_rfl⟩
theorem row_35 : RowTy Try.prog 35 12 := ⟨⟨_, Try.underlying35, rfl⟩, by kernel_rfl⟩
theorem slt_22 : SliceTy Try.prog 22 35 12 := ⟨Try.underlying22, by kernel_rfl⟩
theorem slt_23 : SliceTy Try.prog 23 5 1 := ⟨Try.underlying23, by kernel_rfl⟩
theorem slt_33 : SliceTy Try.prog 33 3 1 := ⟨Try.underlying33, by kernel_rfl⟩
theorem slt_58 : SliceTy Try.prog 58 57 1 := ⟨Try.underlying58, by kernel_rfl⟩
theorem zero_23 : ZeroOf Try.prog 23 [.slice none 0 0] := ZeroOf.mk (by kernel_rfl)
theorem zero_3 : ZeroOf Try.prog 3 [.int .i64 0] := ZeroOf.mk (by kernel_rfl)
theorem zero_32 : ZeroOf Try.prog 32 [.int .i64 0, .string ByteArray.empty, .string ByteArray.empty, .int .i64 0, .int .i64 0, .int .i64 0] := ZeroOf.mk (by kernel_rfl)
theorem zero_35 : ZeroOf Try.prog 35 [.int .i64 0, .int .i64 0, .int .i64 0, .int .i64 0, .int .i64 0, .int .i64 0, .string ByteArray.empty, .string ByteArray.empty, .int .i64 0, .int .i64 0, .int .i64 0, .slice none 0 0] := ZeroOf.mk (by kernel_rfl)
theorem zero_44 : ZeroOf Try.prog 44 [.int .u64 0] := ZeroOf.mk (by kernel_rfl)
theorem zero_5 : ZeroOf Try.prog 5 [.int .u8 0] := ZeroOf.mk (by kernel_rfl)
end Go.Proofs.Ytcjaodddckbciaa
