/- Part 20 of the proof of dutyQuiet_holds: DutNF, DutRF, DutR1. Every text below begins with what it shows. -/
import Derived.Test.YtmpoffijcfaalaaGreatQu19

/- Closed facts on the program: written by specs3.py. -/

namespace Go.Proofs.YtmpoffijcfaalaaGreat.Pen
open Go.Eng

theorem app_25 : AppTy Tryz.prog 25 122 7 56 := AppTy.mk Tryz.underlying25 (by kernel_rfl) (by decide)
theorem app_297 : AppTy Tryz.prog 297 243 1 8 := AppTy.mk Tryz.underlying297 (by kernel_rfl) (by decide)
theorem app_348 : AppTy Tryz.prog 348 247 1 8 := AppTy.mk Tryz.underlying348 (by kernel_rfl) (by decide)
theorem app_50 : AppTy Tryz.prog 50 70 10 104 := AppTy.mk Tryz.underlying50 (by kernel_rfl) (by decide)
theorem app_51 : AppTy Tryz.prog 51 108 11 104 := AppTy.mk Tryz.underlying51 (by kernel_rfl) (by decide)
theorem app_52 : AppTy Tryz.prog 52 126 8 80 := AppTy.mk Tryz.underlying52 (by kernel_rfl) (by decide)
theorem app_53 : AppTy Tryz.prog 53 129 2 16 := AppTy.mk Tryz.underlying53 (by kernel_rfl) (by decide)
theorem app_66 : AppTy Tryz.prog 66 165 4 32 := AppTy.mk Tryz.underlying66 (by kernel_rfl) (by decide)
theorem fld_108_0 : FieldAt Tryz.prog 108 0 0 := FieldAt.mk Tryz.underlying108 rfl (by kernel_rfl) rfl
theorem fld_108_1 : FieldAt Tryz.prog 108 1 1 := FieldAt.mk Tryz.underlying108 rfl (by kernel_rfl) rfl
theorem fld_108_2 : FieldAt Tryz.prog 108 2 2 := FieldAt.mk Tryz.underlying108 rfl (by kernel_rfl) rfl
theorem fld_108_3 : FieldAt Tryz.prog 108 3 3 := FieldAt.mk Tryz.underlying108 rfl (by kernel_rfl) rfl
theorem fld_108_4 : FieldAt Tryz.prog 108 4 4 := FieldAt.mk Tryz.underlying108 rfl (by kernel_rfl) rfl
theorem fld_108_5 : FieldAt Tryz.prog 108 5 5 := FieldAt.mk Tryz.underlying108 rfl (by kernel_rfl) rfl
theorem fld_120_0 : FieldAt Tryz.prog 120 0 0 := FieldAt.mk Tryz.underlying120 rfl (by kernel_rfl) rfl
theorem fld_120_1 : FieldAt Tryz.prog 120 1 1 := FieldAt.mk Tryz.underlying120 rfl (by kernel_rfl) rfl
theorem fld_120_2 : FieldAt Tryz.prog 120 2 2 := FieldAt.mk Tryz.underlying120 rfl (by kernel_rfl) rfl
theorem fld_120_3 : FieldAt Tryz.prog 120 3 3 := FieldAt.mk Tryz.underlying120 rfl (by kernel_rfl) rfl
theorem fld_122_0 : FieldAt Tryz.prog 122 0 0 := FieldAt.mk Tryz.underlying122 rfl (by kernel_rfl) rfl
theorem fld_122_1 : FieldAt Tryz.prog 122 1 1 := FieldAt.mk Tryz.underlying122 rfl (by kernel_rfl) rfl
theorem fld_122_2 : FieldAt Tryz.prog 122 2 2 := FieldAt.mk Tryz.underlying122 rfl (by kernel_rfl) rfl
theorem fld_122_3 : FieldAt Tryz.prog 122 3 3 := FieldAt.mk Tryz.underlying122 rfl (by kernel_rfl) rfl
theorem fld_126_0 : FieldAt Tryz.prog 126 0 0 := FieldAt.mk Tryz.underlying126 rfl (by kernel_rfl) rfl
theorem fld_126_1 : FieldAt Tryz.prog 126 1 1 := FieldAt.mk Tryz.underlying126 rfl (by kernel_rfl) rfl
theorem fld_126_2 : FieldAt Tryz.prog 126 2 2 := FieldAt.mk Tryz.underlying126 rfl (by kernel_rfl) rfl
theorem fld_126_3 : FieldAt Tryz.prog 126 3 3 := FieldAt.mk Tryz.underlying126 rfl (by kernel_rfl) rfl
theorem fld_126_4 : FieldAt Tryz.prog 126 4 4 := FieldAt.mk Tryz.underlying126 rfl (by kernel_rfl) rfl
theorem fld_126_5 : FieldAt Tryz.prog 126 5 5 := FieldAt.mk Tryz.underlying126 rfl (by kernel_rfl) rfl
theorem fld_126_6 : FieldAt Tryz.prog 126 6 6 := FieldAt.mk Tryz.underlying126 rfl (by kernel_rfl) rfl
theorem fld_126_7 : FieldAt Tryz.prog 126 7 7 := FieldAt.mk Tryz.underlying126 rfl (by kernel_rfl) rfl
theorem fld_129_0 : FieldAt Tryz.prog 129 0 0 := FieldAt.mk Tryz.underlying129 rfl (by kernel_rfl) rfl
theorem fld_129_1 : FieldAt Tryz.prog 129 1 1 := FieldAt.mk Tryz.underlying129 rfl (by kernel_rfl) rfl
theorem fld_165_0 : FieldAt Tryz.prog 165 0 0 := FieldAt.mk Tryz.underlying165 rfl (by kernel_rfl) rfl
theorem fld_165_1 : FieldAt Tryz.prog 165 1 1 := FieldAt.mk Tryz.underlying165 rfl (by kernel_rfl) rfl
theorem fld_165_2 : FieldAt Tryz.prog 165 2 2 := FieldAt.mk Tryz.underlying165 rfl (by kernel_rfl) rfl
theorem fld_165_3 : FieldAt Tryz.prog 165 3 3 := FieldAt.mk Tryz.underlying165 rfl (by kernel_rfl) rfl
theorem fld_24_0 : FieldAt Tryz.prog 24 0 0 := FieldAt.mk Tryz.underlying24 rfl (by kernel_rfl) rfl
theorem fld_24_1 : FieldAt Tryz.prog 24 1 1 := FieldAt.mk Tryz.underlying24 rfl (by kernel_rfl) rfl
theorem fld_24_2 : FieldAt Tryz.prog 24 2 2 := FieldAt.mk Tryz.underlying24 rfl (by kernel_rfl) rfl
theorem fld_24_3 : FieldAt Tryz.prog 24 3 3 := FieldAt.mk Tryz.underlying24 rfl (by kernel_rfl) rfl
theorem fld_24_4 : FieldAt Tryz.prog 24 4 4 := FieldAt.mk Tryz.underlying24 rfl (by kernel_rfl) rfl
theorem fld_24_5 : FieldAt Tryz.prog 24 5 5 := FieldAt.mk Tryz.underlying24 rfl (by kernel_rfl) rfl
theorem fld_24_6 : FieldAt Tryz.prog 24 6 6 := FieldAt.mk Tryz.underlying24 rfl (by kernel_rfl) rfl
theorem fld_314_0 : FieldAt Tryz.prog 314 0 0 := FieldAt.mk Tryz.underlying314 rfl (by kernel_rfl) rfl
theorem fld_314_3 : FieldAt Tryz.prog 314 3 3 := FieldAt.mk Tryz.underlying314 rfl (by kernel_rfl) rfl
theorem fld_34_0 : FieldAt Tryz.prog 34 0 0 := FieldAt.mk Tryz.underlying34 rfl (by kernel_rfl) rfl
theorem fld_34_1 : FieldAt Tryz.prog 34 1 1 := FieldAt.mk Tryz.underlying34 rfl (by kernel_rfl) rfl
theorem fld_34_2 : FieldAt Tryz.prog 34 2 2 := FieldAt.mk Tryz.underlying34 rfl (by kernel_rfl) rfl
theorem fld_34_3 : FieldAt Tryz.prog 34 3 3 := FieldAt.mk Tryz.underlying34 rfl (by kernel_rfl) rfl
theorem fld_34_4 : FieldAt Tryz.prog 34 4 4 := FieldAt.mk Tryz.underlying34 rfl (by kernel_rfl) rfl
theorem fld_34_5 : FieldAt Tryz.prog 34 5 5 := FieldAt.mk Tryz.underlying34 rfl (by kernel_rfl) rfl
theorem fld_55_0 : FieldAt Tryz.prog 55 0 0 := FieldAt.mk Tryz.underlying55 rfl (by kernel_rfl) rfl
theorem fld_55_1 : FieldAt Tryz.prog 55 1 1 := FieldAt.mk Tryz.underlying55 rfl (by kernel_rfl) rfl
theorem fld_55_10 : FieldAt Tryz.prog 55 10 10 := FieldAt.mk Tryz.underlying55 rfl (by kernel_rfl) rfl
theorem fld_55_11 : FieldAt Tryz.prog 55 11 11 := FieldAt.mk Tryz.underlying55 rfl (by kernel_rfl) rfl
theorem fld_55_12 : FieldAt Tryz.prog 55 12 18 := FieldAt.mk Tryz.underlying55 rfl (by kernel_rfl) rfl
theorem fld_55_13 : FieldAt Tryz.prog 55 13 25 := FieldAt.mk Tryz.underlying55 rfl (by kernel_rfl) rfl
theorem fld_55_14 : FieldAt Tryz.prog 55 14 26 := FieldAt.mk Tryz.underlying55 rfl (by kernel_rfl) rfl
theorem fld_55_15 : FieldAt Tryz.prog 55 15 27 := FieldAt.mk Tryz.underlying55 rfl (by kernel_rfl) rfl
theorem fld_55_16 : FieldAt Tryz.prog 55 16 28 := FieldAt.mk Tryz.underlying55 rfl (by kernel_rfl) rfl
theorem fld_55_2 : FieldAt Tryz.prog 55 2 2 := FieldAt.mk Tryz.underlying55 rfl (by kernel_rfl) rfl
theorem fld_55_3 : FieldAt Tryz.prog 55 3 3 := FieldAt.mk Tryz.underlying55 rfl (by kernel_rfl) rfl
theorem fld_55_4 : FieldAt Tryz.prog 55 4 4 := FieldAt.mk Tryz.underlying55 rfl (by kernel_rfl) rfl
theorem fld_55_5 : FieldAt Tryz.prog 55 5 5 := FieldAt.mk Tryz.underlying55 rfl (by kernel_rfl) rfl
theorem fld_55_6 : FieldAt Tryz.prog 55 6 6 := FieldAt.mk Tryz.underlying55 rfl (by kernel_rfl) rfl
theorem fld_55_7 : FieldAt Tryz.prog 55 7 7 := FieldAt.mk Tryz.underlying55 rfl (by kernel_rfl) rfl
theorem fld_55_8 : FieldAt Tryz.prog 55 8 8 := FieldAt.mk Tryz.underlying55 rfl (by kernel_rfl) rfl
theorem fld_55_9 : FieldAt Tryz.prog 55 9 9 := FieldAt.mk Tryz.underlying55 rfl (by kernel_rfl) rfl
theorem fld_65_0 : FieldAt Tryz.prog 65 0 0 := FieldAt.mk Tryz.underlying65 rfl (by kernel_rfl) rfl
theorem fld_65_1 : FieldAt Tryz.prog 65 1 1 := FieldAt.mk Tryz.underlying65 rfl (by kernel_rfl) rfl
theorem fld_68_0 : FieldAt Tryz.prog 68 0 0 := FieldAt.mk Tryz.underlying68 rfl (by kernel_rfl) rfl
theorem fld_68_1 : FieldAt Tryz.prog 68 1 1 := FieldAt.mk Tryz.underlying68 rfl (by kernel_rfl) rfl
theorem fld_68_2 : FieldAt Tryz.prog 68 2 2 := FieldAt.mk Tryz.underlying68 rfl (by kernel_rfl) rfl
theorem fld_68_3 : FieldAt Tryz.prog 68 3 3 := FieldAt.mk Tryz.underlying68 rfl (by kernel_rfl) rfl
theorem fld_70_0 : FieldAt Tryz.prog 70 0 0 := FieldAt.mk Tryz.underlying70 rfl (by kernel_rfl) rfl
theorem fld_70_1 : FieldAt Tryz.prog 70 1 1 := FieldAt.mk Tryz.underlying70 rfl (by kernel_rfl) rfl
theorem fld_70_2 : FieldAt Tryz.prog 70 2 3 := FieldAt.mk Tryz.underlying70 rfl (by kernel_rfl) rfl
theorem fld_70_3 : FieldAt Tryz.prog 70 3 4 := FieldAt.mk Tryz.underlying70 rfl (by kernel_rfl) rfl
theorem fld_70_4 : FieldAt Tryz.prog 70 4 5 := FieldAt.mk Tryz.underlying70 rfl (by kernel_rfl) rfl
theorem fld_70_5 : FieldAt Tryz.prog 70 5 6 := FieldAt.mk Tryz.underlying70 rfl (by kernel_rfl) rfl
theorem mixed : Tryz.prog.follows .mixedOrders = true := by kernel_rfl
theorem ok_214 : FnOk Tryz.prog 214 := ⟨⟨_, Tryz.func214, by kernel_rfl, rfl⟩⟩
theorem ok_215 : FnOk Tryz.prog 215 := ⟨⟨_, Tryz.func215, by kernel_rfl, rfl⟩⟩
theorem ok_216 : FnOk Tryz.prog 216 := ⟨⟨_, Tryz.func216, by kernel_rfl, rfl⟩⟩
theorem ok_259 : FnOk Tryz.prog 259 := ⟨⟨_, Tryz.func259, by kernel_rfl, rfl⟩⟩
theorem ok_260 : FnOk Tryz.prog 260 := ⟨⟨_, Tryz.func260, by kernel_rfl, rfl⟩⟩
theorem ok_261 : FnOk Tryz.prog 261 := ⟨⟨_, Tryz.func261, by kernel_rfl, rfl⟩⟩
theorem ok_262 : FnOk Tryz.prog 262 := ⟨⟨_, Tryz.func262, by kernel_rfl, rfl⟩⟩
theorem ok_263 : FnOk Tryz.prog 263 := ⟨⟨_, Tryz.func263, by kernel_rfl, rfl⟩⟩
theorem ok_264 : FnOk Tryz.prog 264 := ⟨⟨_, Tryz.func264, by kernel_rfl, rfl⟩⟩
theorem ok_265 : FnOk Tryz.prog 265 := ⟨⟨_, Tryz.func265, by kernel_rfl, rfl⟩⟩
theorem ok_266 : FnOk Tryz.prog 266 := ⟨⟨_, Tryz.func266, by kernel_rfl, rfl⟩⟩
theorem ok_267 : FnOk Tryz.prog 267 := ⟨⟨_, Tryz.func267, by kernel_rfl, rfl⟩⟩
theorem ok_268 : FnOk Tryz.prog 268 := ⟨⟨_, Tryz.func268, by kernel_rfl, rfl⟩⟩
theorem ok_269 : FnOk Tryz.prog 269 := ⟨⟨_, Tryz.func269, by kernel_rfl, rfl⟩⟩
theorem ok_270 : FnOk Tryz.prog 270 := ⟨⟨_, Tryz.func270, by kernel_rfl, rfl⟩⟩
theorem ok_271 : FnOk Tryz.prog 271 := ⟨⟨_, Tryz.func271, by kernel_rfl, rfl⟩⟩
theorem ok_272 : FnOk Tryz.prog 272 := ⟨⟨_, Tryz.func272, by kernel_rfl, rfl⟩⟩
theorem ok_273 : FnOk Tryz.prog 273 := ⟨⟨_, Tryz.func273, by kernel_rfl, rfl⟩⟩
theorem ok_274 : FnOk Tryz.prog 274 := ⟨⟨_, Tryz.func274, by kernel_rfl, rfl⟩⟩
theorem ok_275 : FnOk Tryz.prog 275 := ⟨⟨_, Tryz.func275, by kernel_rfl, rfl⟩⟩
theorem ok_295 : FnOk Tryz.prog 295 := ⟨⟨_, Tryz.func295, by kernel_rfl, rfl⟩⟩
theorem ok_298 : FnOk Tryz.prog 298 := ⟨⟨_, Tryz.func298, by kernel_rfl, rfl⟩⟩
theorem ok_299 : FnOk Tryz.prog 299 := ⟨⟨_, Tryz.func299, by kernel_rfl, rfl⟩⟩
theorem ok_301 : FnOk Tryz.prog 301 := ⟨⟨_, Tryz.func301, by kernel_rfl, rfl⟩⟩
theorem ok_302 : FnOk Tryz.prog 302 := ⟨⟨_, Tryz.func302, by kernel_rfl, rfl⟩⟩
theorem ok_303 : FnOk Tryz.prog 303 := ⟨⟨_, Tryz.func303, by kernel_rfl, rfl⟩⟩
theorem ok_304 : FnOk Tryz.prog 304 := ⟨⟨_, Tryz.func304, by kernel_rfl, rfl⟩⟩
theorem ok_305 : FnOk Tryz.prog 305 := ⟨⟨_, Tryz.func305, by kernel_rfl, rfl⟩⟩
theorem ok_306 : FnOk Tryz.prog 306 := ⟨⟨_, Tryz.func306, by kernel_rfl, rfl⟩⟩
theorem ok_311 : FnOk Tryz.prog 311 := ⟨⟨_, Tryz.func311, by kernel_rfl, rfl⟩⟩
theorem one_243 : OneTy Tryz.prog 243 := ⟨⟨_, Tryz.underlying243, rfl⟩, by kernel_rfl⟩
theorem one_247 : OneTy Tryz.prog 247 := ⟨⟨_, Tryz.underlying247, rfl⟩, by kernel_rfl⟩
theorem one_25 : OneTy Tryz.prog 25 := ⟨⟨_, Tryz.underlying25, rfl⟩, by kernel_rfl⟩
theorem one_3 : OneTy Tryz.prog 3 := ⟨⟨_, Tryz.underlying3, rfl⟩, by kernel_rfl⟩
theorem one_311 : OneTy Tryz.prog 311 := ⟨⟨_, Tryz.underlying311, rfl⟩, by kernel_rfl⟩
theorem one_35 : OneTy Tryz.prog 35 := ⟨⟨_, Tryz.underlying35, rfl⟩, by kernel_rfl⟩
theorem one_38 : OneTy Tryz.prog 38 := ⟨⟨_, Tryz.underlying38, rfl⟩, by kernel_rfl⟩
theorem one_4 : OneTy Tryz.prog 4 := ⟨⟨_, Tryz.underlying4, rfl⟩, by kernel_rfl⟩
theorem one_50 : OneTy Tryz.prog 50 := ⟨⟨_, Tryz.underlying50, rfl⟩, by kernel_rfl⟩
theorem one_51 : OneTy Tryz.prog 51 := ⟨⟨_, Tryz.underlying51, rfl⟩, by kernel_rfl⟩
theorem one_52 : OneTy Tryz.prog 52 := ⟨⟨_, Tryz.underlying52, rfl⟩, by kernel_rfl⟩
theorem one_53 : OneTy Tryz.prog 53 := ⟨⟨_, Tryz.underlying53, rfl⟩, by kernel_rfl⟩
theorem one_66 : OneTy Tryz.prog 66 := ⟨⟨_, Tryz.underlying66, rfl⟩, by kernel_rfl⟩
theorem one_9 : OneTy Tryz.prog 9 := ⟨⟨_, Tryz.underlying9, rfl⟩, by kernel_rfl⟩
theorem row_108 : RowTy Tryz.prog 108 11 := ⟨⟨_, Tryz.underlying108, rfl⟩, by kernel_rfl⟩
theorem row_122 : RowTy Tryz.prog 122 7 := ⟨⟨_, Tryz.underlying122, rfl⟩, by kernel_rfl⟩
theorem row_126 : RowTy Tryz.prog 126 8 := ⟨⟨_, Tryz.underlying126, rfl⟩, by kernel_rfl⟩
theorem row_129 : RowTy Tryz.prog 129 2 := ⟨⟨_, Tryz.underlying129, rfl⟩, by kernel_rfl⟩
theorem row_165 : RowTy Tryz.prog 165 4 := ⟨⟨_, Tryz.underlying165, rfl⟩, by kernel_rfl⟩
theorem row_55 : RowTy Tryz.prog 55 29 := ⟨⟨_, Tryz.underlying55, rfl⟩, by kernel_rfl⟩
theorem row_70 : RowTy Tryz.prog 70 10 := ⟨⟨_, Tryz.underlying70, rfl⟩, by kernel_rfl⟩
theorem slt_297 : SliceTy Tryz.prog 297 243 1 := ⟨Tryz.underlying297, by kernel_rfl⟩
theorem slt_348 : SliceTy Tryz.prog 348 247 1 := ⟨Tryz.underlying348, by kernel_rfl⟩
theorem zero_108 : ZeroOf Tryz.prog 108 [.int .i64 0, .int .i64 0, .int .i64 0, .int .i64 0, .int .i64 0, .int .i64 0, .string ByteArray.empty, .string ByteArray.empty, .int .i64 0, .int .i64 0, .int .i64 0] := ZeroOf.mk (by kernel_rfl)
theorem zero_122 : ZeroOf Tryz.prog 122 [.int .i64 0, .int .i64 0, .bool false, .int .i64 0, .int .i64 0, .int .i64 0, .int .i64 0] := ZeroOf.mk (by kernel_rfl)
theorem zero_126 : ZeroOf Tryz.prog 126 [.int .i64 0, .int .i64 0, .string ByteArray.empty, .string ByteArray.empty, .int .i64 0, .int .i64 0, .int .i64 0, .int .i64 0] := ZeroOf.mk (by kernel_rfl)
theorem zero_129 : ZeroOf Tryz.prog 129 [.int .i64 0, .int .i64 0] := ZeroOf.mk (by kernel_rfl)
theorem zero_165 : ZeroOf Tryz.prog 165 [.int .i64 0, .int .i64 0, .int .i64 0, .int .i64 0] := ZeroOf.mk (by kernel_rfl)
theorem zero_3 : ZeroOf Tryz.prog 3 [.int .i64 0] := ZeroOf.mk (by kernel_rfl)
theorem zero_35 : ZeroOf Tryz.prog 35 [.slice none 0 0] := ZeroOf.mk (by kernel_rfl)
theorem zero_55 : ZeroOf Tryz.prog 55 [.int .i64 0, .int .i64 0, .bool false, .string ByteArray.empty, .string ByteArray.empty, .int .i64 0, .slice none 0 0, .slice none 0 0, .slice none 0 0, .slice none 0 0, .slice none 0 0, .int .i64 0, .int .i64 0, .int .i64 0, .string ByteArray.empty, .string ByteArray.empty, .int .i64 0, .int .i64 0, .int .i64 0, .int .i64 0, .int .i64 0, .string ByteArray.empty, .string ByteArray.empty, .int .i64 0, .int .i64 0, .slice none 0 0, .int .i64 0, .int .i64 0, .int .i64 0] := ZeroOf.mk (by kernel_rfl)
theorem zero_70 : ZeroOf Tryz.prog 70 [.string ByteArray.empty, .int .i64 0, .int .i64 0, .int .i64 0, .int .i64 0, .slice none 0 0, .int .i64 0, .int .i64 0, .int .i64 0, .int .i64 0] := ZeroOf.mk (by kernel_rfl)
end Go.Proofs.YtmpoffijcfaalaaGreat.Pen

/- Closed facts on the program: written by specs1r.py. -/

namespace Go.Proofs.YtmpoffijcfaalaaGreat.Rdr
open Go.Eng

theorem app_35 : AppTy Tryz.prog 35 5 1 1 := AppTy.mk Tryz.underlying35 (by kernel_rfl) (by decide)
theorem fld_346_0 : FieldAt Tryz.prog 346 0 0 := FieldAt.mk Tryz.underlying346 rfl (by kernel_rfl) rfl
theorem fld_346_1 : FieldAt Tryz.prog 346 1 1 := FieldAt.mk Tryz.underlying346 rfl (by kernel_rfl) rfl
theorem fld_346_2 : FieldAt Tryz.prog 346 2 2 := FieldAt.mk Tryz.underlying346 rfl (by kernel_rfl) rfl
theorem mixed : Tryz.prog.follows .mixedOrders = true := by kernel_rfl
theorem ok_107 : FnOk Tryz.prog 107 := ⟨⟨_, Tryz.func107, by kernel_rfl, rfl⟩⟩
theorem ok_312 : FnOk Tryz.prog 312 := ⟨⟨_, Tryz.func312, by kernel_rfl, rfl⟩⟩
theorem ok_313 : FnOk Tryz.prog 313 := ⟨⟨_, Tryz.func313, by kernel_rfl, rfl⟩⟩
theorem ok_314 : FnOk Tryz.prog 314 := ⟨⟨_, Tryz.func314, by kernel_rfl, rfl⟩⟩
theorem ok_315 : FnOk Tryz.prog 315 := ⟨⟨_, Tryz.func315, by kernel_rfl, rfl⟩⟩
theorem ok_316 : FnOk Tryz.prog 316 := ⟨⟨_, Tryz.func316, by kernel_rfl, rfl⟩⟩
theorem ok_317 : FnOk Tryz.prog 317 := ⟨⟨_, Tryz.func317, by kernel_rfl, rfl⟩⟩
theorem ok_318 : FnOk Tryz.prog 318 := ⟨⟨_, Tryz.func318, by kernel_rfl, rfl⟩⟩
theorem ok_319 : FnOk Tryz.prog 319 := ⟨⟨_, Tryz.func319, by kernel_rfl, rfl⟩⟩
theorem one_209 : OneTy Tryz.prog 209 := ⟨⟨_, Tryz.underlying209, rfl⟩, by kernel_rfl⟩
theorem one_3 : OneTy Tryz.prog 3 := ⟨⟨_, Tryz.underlying3, rfl⟩, by kernel_rfl⟩
theorem one_35 : OneTy Tryz.prog 35 := ⟨⟨_, Tryz.underlying35, rfl⟩, by kernel_rfl⟩
theorem one_38 : OneTy Tryz.prog 38 := ⟨⟨_, Tryz.underlying38, rfl⟩, by kernel_rfl⟩
theorem one_4 : OneTy Tryz.prog 4 := ⟨⟨_, Tryz.underlying4, rfl⟩, by kernel_rfl⟩
theorem one_5 : OneTy Tryz.prog 5 := ⟨⟨_, Tryz.underlying5, rfl⟩, by kernel_rfl⟩
theorem slt_35 : SliceTy Tryz.prog 35 5 1 := ⟨Tryz.underlying35, by kernel_rfl⟩
theorem zero_209 : ZeroOf Tryz.prog 209 [.int .u64 0] := ZeroOf.mk (by kernel_rfl)
theorem zero_3 : ZeroOf Tryz.prog 3 [.int .i64 0] := ZeroOf.mk (by kernel_rfl)
theorem zero_35 : ZeroOf Tryz.prog 35 [.slice none 0 0] := ZeroOf.mk (by kernel_rfl)
theorem zero_4 : ZeroOf Tryz.prog 4 [.bool false] := ZeroOf.mk (by kernel_rfl)
end Go.Proofs.YtmpoffijcfaalaaGreat.Rdr

/- Walks: written by specs1r.py. -/

namespace Go.Proofs.YtmpoffijcfaalaaGreat.Rdr
open Go.Eng Go.YtmpoffijcfaalaaGreat

theorem number_c (sv : Value) (bs : List UInt8) : FnV Tryz.prog 319 [sv] [⟨sv, bs⟩] (numTup (numD 0 0 bs)) := by
 refine Fnc.proof Tryz.func319 G 41 G G fun X w => sq<|rg<|asg G G<|asg G G<|asg G G<|nl<|nx<|sq<|rg<|asg G G<|nl<|nx<|sq ?_
 refine sq<|rg<|mv G G<|lnP 0 G G Tryz.underlying35 G fun l9 => mv G G<|nl<|nx<|bk<|lp (σ := Nat × Nat) (fun s => [(0, sv), (5, .int .u64 (s.2 : Int)), (8, sv), (9, .int .i64 (bs.length : Int)), (10, .int .i64 (s.1 : Int))]) (fun _ => [fz X w]) (fun _ => [⟨sv, bs⟩]) (fun s => s.1 ≤ 9 ∧ s.1 ≤ bs.length ∧ s.2 < 2 ^ (7 * s.1) ∧ numD 0 0 bs = numD s.1 s.2 (bs.drop s.1)) (fun s => bs.length - s.1) (0, 0) ⟨by decide, Nat.zero_le _, by decide, G⟩ ⟨G, G, G, G, G, trivial⟩ G Sr ?_
 rintro ⟨i, v⟩ ⟨h1, h2, h3, h4⟩
 simp only at h1 h2 h3 h4
 refine sq<|rg<|ltI G G G<|nl<|nx<|sq<|cdP G (fun h11 => ?_) (fun h11 => ?_)
 ·
  refine sk<|nx<|sq<|bk<|sq<|rg<|mv G G ?_
  obtain ⟨c, hc⟩ : ∃ c, bs[i]? = some c := ⟨_, getE (by omega)⟩
  have hd := drop_at hc
  have hcl := c.toNat_lt
  refine ixP 0 G G G slt_35 (by omega) hc G fun v13 => ldV 0 G G one_5 G fun w14 => ?_
  refine asg G G<|asg G G<|nl<|nx<|sq<|sq<|rg<|mv G G<|eqI G G G<|mv G G<|spP (i := 17) G (fun h17 => ?_) (fun h17 => ?_)
  ·
   refine gY G G G<|mv G G<|gY G G G<|gtI G G G<|pkT G G G<|nl<|nx<|cdP G (fun h20 => ?_) (fun h20 => ?_)
   ·
    refine sq<|rg<|asg G G<|asg G G<|asg G G<|nl<|nx<|rt<|tR<|bR<|tR<|tR<|bR<|tR ?_
    exact fR3 () G G G G (by have e := h4; rw [hd] at e; simp only [numD] at e; (repeat (first | rw [if_pos (by omega)] at e | rw [if_neg (by omega)] at e)); first | exact congrArg numTup e.symm | (exfalso; omega)) G Sn
   ·
    refine sk<|nx<|sq<|rg<|mv G G<|mv G G<|btA G G (and_127 c) G<|cv Tryz.underlying5 Tryz.underlying209 G (wrap_u64' (by omega)) G<|mv G G<|muI G G (inI (by omega) (by omega)) G<|shL G G (by omega) (shl_k _ (7 * i) (shl_ok h1 (by omega)) (by omega)) G<|btO G G (or_add h3 (shl_ok h1 (by omega)) (by omega)) G<|asg G G<|nl ?_
    refine nx<|sq<|sq<|rg<|mv G G<|geI G G G<|nl<|nx<|cdP G (fun h30 => ?_) (fun h30 => ?_)
    ·
     refine ex<|tE<|bE<|nx<|rg<|adI G G (inI (by omega) (by omega)) G<|mv G G<|nl ?_
     exact ag (i + 1, v + c.toNat % 128 * 2 ^ (7 * i)) ⟨by show i + 1 ≤ 9; omega, by show i + 1 ≤ bs.length; omega, shl_lt h3, by show numD 0 0 bs = _; rw [h4, hd]; simp only [numD]; rw [if_neg (by omega), if_pos (by omega)]⟩ (by show bs.length - (i + 1) < bs.length - i; omega) ⟨G, G, G, G, G, trivial⟩ G (Sc 1 G Sn)
    ·
     refine sk<|nx<|sq<|sq<|rg<|mv G G<|eqI G G G<|mv G G<|spP (i := 33) G (fun h33 => ?_) (fun h33 => ?_)
     ·
      refine gY G G G<|mv G G<|gY G G G<|gtI G G G<|pkT G G G<|nl<|nx<|cdP G (fun h36 => ?_) (fun h36 => ?_)
      ·
       refine sq<|rg<|asg G G<|asg G G<|asg G G<|nl<|nx<|rt<|tR<|bR<|tR<|tR<|bR<|tR ?_
       exact fR3 () G G G G (by have e := h4; rw [hd] at e; simp only [numD] at e; (repeat (first | rw [if_pos (by omega)] at e | rw [if_neg (by omega)] at e)); first | exact congrArg numTup e.symm | (exfalso; omega)) G Sn
      ·
       refine sk<|nx<|sq<|rg<|mv G G<|mv G G<|adI G G (inI (by omega) (by omega)) G<|asg G G<|asg G G<|asg G G<|nl<|nx<|rt<|bR ?_
       exact tR<|tR<|bR<|tR<|fR3 () G G G G (by have e := h4; rw [hd] at e; simp only [numD] at e; (repeat (first | rw [if_pos (by omega)] at e | rw [if_neg (by omega)] at e)); first | exact congrArg numTup e.symm | (exfalso; omega)) G Sn
     ·
      refine gN G G G G G<|gN G G G G G<|pkF G G G<|nl<|nx<|cdF G<|sk<|nx<|sq<|rg<|mv G G<|mv G G<|adI G G (inI (by omega) (by omega)) G<|asg G G ?_
      exact asg G G<|asg G G<|nl<|nx<|rt<|bR<|tR<|tR<|bR<|tR<|fR3 () G G G G (by have e := h4; rw [hd] at e; simp only [numD] at e; (repeat (first | rw [if_pos (by omega)] at e | rw [if_neg (by omega)] at e)); first | exact congrArg numTup e.symm | (exfalso; omega)) G Sn
  ·
   refine gN G G G G G<|gN G G G G G<|pkF G G G<|nl<|nx<|cdF G<|sk<|nx<|sq<|rg<|mv G G<|mv G G<|btA G G (and_127 c) G<|cv Tryz.underlying5 Tryz.underlying209 G (wrap_u64' (by omega)) G ?_
   refine mv G G<|muI G G (inI (by omega) (by omega)) G<|shL G G (by omega) (shl_k _ (7 * i) (shl_ok h1 (by omega)) (by omega)) G<|btO G G (or_add h3 (shl_ok h1 (by omega)) (by omega)) G<|asg G G<|nl<|nx<|sq<|sq<|rg<|mv G G<|geI G G G<|nl<|nx ?_
   refine cdP G (fun h30 => ?_) (fun h30 => ?_)
   ·
    refine ex<|tE<|bE<|nx<|rg<|adI G G (inI (by omega) (by omega)) G<|mv G G<|nl ?_
    exact ag (i + 1, v + c.toNat % 128 * 2 ^ (7 * i)) ⟨by show i + 1 ≤ 9; omega, by show i + 1 ≤ bs.length; omega, shl_lt h3, by show numD 0 0 bs = _; rw [h4, hd]; simp only [numD]; rw [if_neg (by omega), if_pos (by omega)]⟩ (by show bs.length - (i + 1) < bs.length - i; omega) ⟨G, G, G, G, G, trivial⟩ G (Sc 1 G Sn)
   ·
    refine sk<|nx<|sq<|sq<|rg<|mv G G<|eqI G G G<|mv G G<|spP (i := 33) G (fun h33 => ?_) (fun h33 => ?_)
    ·
     refine gY G G G<|mv G G<|gY G G G<|gtI G G G<|pkT G G G<|nl<|nx<|cdP G (fun h36 => ?_) (fun h36 => ?_)
     ·
      refine sq<|rg<|asg G G<|asg G G<|asg G G<|nl<|nx<|rt<|tR<|bR<|tR<|tR<|bR<|tR ?_
      exact fR3 () G G G G (by have e := h4; rw [hd] at e; simp only [numD] at e; (repeat (first | rw [if_pos (by omega)] at e | rw [if_neg (by omega)] at e)); first | exact congrArg numTup e.symm | (exfalso; omega)) G Sn
     ·
      refine sk<|nx<|sq<|rg<|mv G G<|mv G G<|adI G G (inI (by omega) (by omega)) G<|asg G G<|asg G G<|asg G G<|nl<|nx<|rt<|bR ?_
      exact tR<|tR<|bR<|tR<|fR3 () G G G G (by have e := h4; rw [hd] at e; simp only [numD] at e; (repeat (first | rw [if_pos (by omega)] at e | rw [if_neg (by omega)] at e)); first | exact congrArg numTup e.symm | (exfalso; omega)) G Sn
    ·
     refine gN G G G G G<|gN G G G G G<|pkF G G G<|nl<|nx<|cdF G<|sk<|nx<|sq<|rg<|mv G G<|mv G G<|adI G G (inI (by omega) (by omega)) G<|asg G G ?_
     exact asg G G<|asg G G<|nl<|nx<|rt<|bR<|tR<|tR<|bR<|tR<|fR3 () G G G G (by have e := h4; rw [hd] at e; simp only [numD] at e; (repeat (first | rw [if_pos (by omega)] at e | rw [if_neg (by omega)] at e)); first | exact congrArg numTup e.symm | (exfalso; omega)) G Sn
 ·
  exact ex<|tE<|tE<|bE<|nx<|sq<|rg<|asg G G<|asg G G<|asg G G<|nl<|nx<|rt<|fR3 () G G G G (by have e := h4; rw [List.drop_eq_nil_of_le (by omega)] at e; exact congrArg numTup e.symm) G Sn

theorem counted_c (sv : Value) (bs : List UInt8) (most : Int) (hm : InI most) : FnV Tryz.prog 316 [sv, .int .i64 most] [⟨sv, bs⟩] (intTup (countD bs most)) := by
 refine Fnc.proof Tryz.func316 G 31 G G fun X w => ?_
 have hb := numD_bd bs 0 0 (by decide) (by decide)
 have hN0 := number_c sv bs
 rcases hN : numD 0 0 bs with ⟨v, n, e⟩
 rw [hN] at hN0 hb
 have hN0 : FnV Tryz.prog 319 [sv] [⟨sv, bs⟩] (.tuple #[.int .u64 (v : Int), .int .i64 (n : Int), .int .i64 (e : Int)]) := hN0
 simp only at hb
 have hmx := max_in hm
 refine sq<|rg<|asg G G<|asg G G<|asg G G<|nl<|nx<|sq<|rg<|mv G G<|cfv (hN0) ok_319 G (Sc 0 G Sn) G<|mv G G<|xt G G G<|xt G G G ?_
 refine xt G G G<|asg G G<|asg G G<|asg G G<|nl<|nx<|sq<|sq<|rg<|mv G G<|eqI G G G<|mv G G<|spP (i := 18) G (fun h18 => ?_) (fun h18 => ?_)
 ·
  refine gY G G G<|mv G G<|gY G G G<|mv G G<|gY G G G<|mxI G G G G<|gY G G G<|cv Tryz.underlying3 Tryz.underlying209 G (wrap_u64_int (by omega) (by omega)) G<|gY G G G<|gtI G G G<|pkT G G G<|nl<|nx<|cdP G (fun h24 => ?_) (fun h24 => ?_)
  ·
   refine rg<|asg G G<|nl<|nx<|sq<|sq<|rg<|mv G G<|neI G G G<|nl<|nx<|cdN G (fun h26 => ?_) (fun h26 => ?_)
   ·
    exact sq<|rg<|mv G G<|asg G G<|asg G G<|asg G G<|nl<|nx<|rt<|tR<|fR3 () G G G G (by have q := countD_of (most := most) hN; (repeat (first | rw [if_pos (by omega)] at q | rw [if_neg (by omega)] at q)); first | exact congrArg intTup q.symm | (exfalso; omega)) G Sn
   ·
    exact sk<|nx<|sq<|rg<|mv G G<|cv Tryz.underlying209 Tryz.underlying3 G (i64_of_nat (by omega)) G<|mv G G<|asg G G<|asg G G<|asg G G<|nl<|nx<|rt<|fR3 () G G G G (by have q := countD_of (most := most) hN; (repeat (first | rw [if_pos (by omega)] at q | rw [if_neg (by omega)] at q)); first | exact congrArg intTup q.symm | (exfalso; omega)) G Sn
  ·
   refine sk<|nx<|sq<|sq<|rg<|mv G G<|neI G G G<|nl<|nx<|cdN G (fun h26 => ?_) (fun h26 => ?_)
   ·
    exact sq<|rg<|mv G G<|asg G G<|asg G G<|asg G G<|nl<|nx<|rt<|tR<|fR3 () G G G G (by have q := countD_of (most := most) hN; (repeat (first | rw [if_pos (by omega)] at q | rw [if_neg (by omega)] at q)); first | exact congrArg intTup q.symm | (exfalso; omega)) G Sn
   ·
    exact sk<|nx<|sq<|rg<|mv G G<|cv Tryz.underlying209 Tryz.underlying3 G (i64_of_nat (by omega)) G<|mv G G<|asg G G<|asg G G<|asg G G<|nl<|nx<|rt<|fR3 () G G G G (by have q := countD_of (most := most) hN; (repeat (first | rw [if_pos (by omega)] at q | rw [if_neg (by omega)] at q)); first | exact congrArg intTup q.symm | (exfalso; omega)) G Sn
 ·
  refine gN G G G G G<|gN G G G G G<|gN G G G G G<|gN G G G G G<|gN G G G G G<|pkF G G G<|nl<|nx<|cdF G<|sk<|nx<|sq<|sq<|rg ?_
  refine mv G G<|neI G G G<|nl<|nx<|cdN G (fun h26 => ?_) (fun h26 => ?_)
  ·
   exact sq<|rg<|mv G G<|asg G G<|asg G G<|asg G G<|nl<|nx<|rt<|tR<|fR3 () G G G G (by have q := countD_of (most := most) hN; (repeat (first | rw [if_pos (by omega)] at q | rw [if_neg (by omega)] at q)); first | exact congrArg intTup q.symm | (exfalso; omega)) G Sn
  ·
   exact sk<|nx<|sq<|rg<|mv G G<|cv Tryz.underlying209 Tryz.underlying3 G (i64_of_nat (by omega)) G<|mv G G<|asg G G<|asg G G<|asg G G<|nl<|nx<|rt<|fR3 () G G G G (by have q := countD_of (most := most) hN; (repeat (first | rw [if_pos (by omega)] at q | rw [if_neg (by omega)] at q)); first | exact congrArg intTup q.symm | (exfalso; omega)) G Sn

theorem num1_c (b : Nat) (sv : Value) (bs : List UInt8) : Fnc Tryz.prog 318 [sv, .pointer (some ⟨b, 0, none⟩)] [bl b 209 [.int .u64 0]] [⟨sv, bs⟩] (fun (_ : Unit) v => v = stepTup (numD 0 0 bs).2.1 (numD 0 0 bs).2.2) (fun _ _ => [bl b 209 [.int .u64 ((numD 0 0 bs).1 : Int)]]) (fun _ _ => []) := by
 refine Fnc.proof Tryz.func318 G 13 G G fun X w => sq<|rg<|asg G G<|asg G G<|nl<|nx<|sq<|rg<|mv G G<|cfv (number_c _ _) ok_319 G (Sc 0 G Sn) G<|mv G G<|xt G G G<|xt G G G ?_
 refine xt G G G<|stB 0 G G G one_209 G (Nat.lt_of_lt_of_le (Nat.lt_succ_self _) (Nat.le_of_ble_eq_true G))<|asg G G<|asg G G<|nl<|nx<|sq<|rg<|mv G G<|mv G G<|asg G G<|asg G G<|nl<|nx ?_
 exact rt<|fR2 () G G G G G Sn

theorem count1_c (a b : Nat) (sv : Value) (bs : List UInt8) (most : Int) (hm : InI most) : Fnc Tryz.prog 315 [sv, .pointer (some ⟨a, 0, none⟩), .pointer (some ⟨b, 0, none⟩)] [bl b 3 [.int .i64 0], bl a 3 [.int .i64 most]] [⟨sv, bs⟩] (fun (_ : Unit) v => v = stepTup (countD bs most).2.1 (countD bs most).2.2) (fun _ _ => [bl b 3 [.int .i64 ((countD bs most).1 : Int)], bl a 3 [.int .i64 most]]) (fun _ _ => []) := by
 refine Fnc.proof Tryz.func315 G 15 G G fun X w => sq<|rg<|asg G G<|asg G G<|nl<|nx<|sq<|rg<|mv G G<|ldB 1 G G one_3 G G<|cfv (counted_c _ _ _ hm) ok_316 G (Sc 0 G Sn) G<|mv G G<|xt G G G ?_
 refine xt G G G<|xt G G G<|stB 0 G G G one_3 G (Nat.lt_of_lt_of_le (Nat.lt_succ_self _) (Nat.le_of_ble_eq_true G))<|asg G G<|asg G G<|nl<|nx<|sq<|rg<|mv G G<|mv G G<|asg G G<|asg G G<|nl ?_
 exact nx<|rt<|fR2 () G G G G G Sn
end Go.Proofs.YtmpoffijcfaalaaGreat.Rdr
