/- Part 26 of the proof of dutyQuiet_holds: DutHF, DutG, DutG1, DutGP2. Every text below begins with what it shows. -/
import Derived.Test.YtmpoffijcfaalaaGreatQu25

/- Closed facts on the program: written by specs5.py. -/

namespace Go.Proofs.YtmpoffijcfaalaaGreat.Ref
open Go.Eng

theorem app_25 : AppTy Tryz.prog 25 122 7 56 := AppTy.mk Tryz.underlying25 (by kernel_rfl) (by decide)
theorem app_297 : AppTy Tryz.prog 297 243 1 8 := AppTy.mk Tryz.underlying297 (by kernel_rfl) (by decide)
theorem app_50 : AppTy Tryz.prog 50 70 10 104 := AppTy.mk Tryz.underlying50 (by kernel_rfl) (by decide)
theorem app_51 : AppTy Tryz.prog 51 108 11 104 := AppTy.mk Tryz.underlying51 (by kernel_rfl) (by decide)
theorem app_52 : AppTy Tryz.prog 52 126 8 80 := AppTy.mk Tryz.underlying52 (by kernel_rfl) (by decide)
theorem app_53 : AppTy Tryz.prog 53 129 2 16 := AppTy.mk Tryz.underlying53 (by kernel_rfl) (by decide)
theorem app_66 : AppTy Tryz.prog 66 165 4 32 := AppTy.mk Tryz.underlying66 (by kernel_rfl) (by decide)
theorem fld_108_0 : FieldAt Tryz.prog 108 0 0 := FieldAt.mk Tryz.underlying108 rfl (by kernel_rfl) rfl
theorem fld_108_1 : FieldAt Tryz.prog 108 1 1 := FieldAt.mk Tryz.underlying108 rfl (by kernel_rfl) rfl
theorem fld_108_2 : FieldAt Tryz.prog 108 2 2 := FieldAt.mk Tryz.underlying108 rfl (by kernel_rfl) rfl
theorem fld_108_3 : FieldAt Tryz.prog 108 3 3 := FieldAt.mk Tryz.underlying108 rfl (by kernel_rfl) rfl
theorem fld_108_4 : FieldAt Tryz.prog 108 4 4 := FieldAt.mk Tryz.underlying108 rfl (by kernel_rfl) rfl
theorem fld_108_5 : FieldAt Tryz.prog 108 5 5 := FieldAt.mk Tryz.underlying108 rfl (by kernel_rfl) rfl
theorem fld_120_0 : FieldAt Tryz.prog 120 0 0 := FieldAt.mk Tryz.underlying120 rfl (by kernel_rfl) rfl
theorem fld_120_1 : FieldAt Tryz.prog 120 1 1 := FieldAt.mk Tryz.underlying120 rfl (by kernel_rfl) rfl
theorem fld_120_2 : FieldAt Tryz.prog 120 2 2 := FieldAt.mk Tryz.underlying120 rfl (by kernel_rfl) rfl
theorem fld_120_3 : FieldAt Tryz.prog 120 3 3 := FieldAt.mk Tryz.underlying120 rfl (by kernel_rfl) rfl
theorem fld_122_0 : FieldAt Tryz.prog 122 0 0 := FieldAt.mk Tryz.underlying122 rfl (by kernel_rfl) rfl
theorem fld_122_1 : FieldAt Tryz.prog 122 1 1 := FieldAt.mk Tryz.underlying122 rfl (by kernel_rfl) rfl
theorem fld_122_2 : FieldAt Tryz.prog 122 2 2 := FieldAt.mk Tryz.underlying122 rfl (by kernel_rfl) rfl
theorem fld_122_3 : FieldAt Tryz.prog 122 3 3 := FieldAt.mk Tryz.underlying122 rfl (by kernel_rfl) rfl
theorem fld_126_0 : FieldAt Tryz.prog 126 0 0 := FieldAt.mk Tryz.underlying126 rfl (by kernel_rfl) rfl
theorem fld_126_1 : FieldAt Tryz.prog 126 1 1 := FieldAt.mk Tryz.underlying126 rfl (by kernel_rfl) rfl
theorem fld_126_2 : FieldAt Tryz.prog 126 2 2 := FieldAt.mk Tryz.underlying126 rfl (by kernel_rfl) rfl
theorem fld_126_3 : FieldAt Tryz.prog 126 3 3 := FieldAt.mk Tryz.underlying126 rfl (by kernel_rfl) rfl
theorem fld_126_4 : FieldAt Tryz.prog 126 4 4 := FieldAt.mk Tryz.underlying126 rfl (by kernel_rfl) rfl
theorem fld_126_5 : FieldAt Tryz.prog 126 5 5 := FieldAt.mk Tryz.underlying126 rfl (by kernel_rfl) rfl
theorem fld_126_6 : FieldAt Tryz.prog 126 6 6 := FieldAt.mk Tryz.underlying126 rfl (by kernel_rfl) rfl
theorem fld_126_7 : FieldAt Tryz.prog 126 7 7 := FieldAt.mk Tryz.underlying126 rfl (by kernel_rfl) rfl
theorem fld_129_0 : FieldAt Tryz.prog 129 0 0 := FieldAt.mk Tryz.underlying129 rfl (by kernel_rfl) rfl
theorem fld_129_1 : FieldAt Tryz.prog 129 1 1 := FieldAt.mk Tryz.underlying129 rfl (by kernel_rfl) rfl
theorem fld_165_0 : FieldAt Tryz.prog 165 0 0 := FieldAt.mk Tryz.underlying165 rfl (by kernel_rfl) rfl
theorem fld_165_1 : FieldAt Tryz.prog 165 1 1 := FieldAt.mk Tryz.underlying165 rfl (by kernel_rfl) rfl
theorem fld_165_2 : FieldAt Tryz.prog 165 2 2 := FieldAt.mk Tryz.underlying165 rfl (by kernel_rfl) rfl
theorem fld_165_3 : FieldAt Tryz.prog 165 3 3 := FieldAt.mk Tryz.underlying165 rfl (by kernel_rfl) rfl
theorem fld_207_1 : FieldAt Tryz.prog 207 1 1 := FieldAt.mk Tryz.underlying207 rfl (by kernel_rfl) rfl
theorem fld_24_0 : FieldAt Tryz.prog 24 0 0 := FieldAt.mk Tryz.underlying24 rfl (by kernel_rfl) rfl
theorem fld_24_1 : FieldAt Tryz.prog 24 1 1 := FieldAt.mk Tryz.underlying24 rfl (by kernel_rfl) rfl
theorem fld_24_2 : FieldAt Tryz.prog 24 2 2 := FieldAt.mk Tryz.underlying24 rfl (by kernel_rfl) rfl
theorem fld_24_3 : FieldAt Tryz.prog 24 3 3 := FieldAt.mk Tryz.underlying24 rfl (by kernel_rfl) rfl
theorem fld_24_4 : FieldAt Tryz.prog 24 4 4 := FieldAt.mk Tryz.underlying24 rfl (by kernel_rfl) rfl
theorem fld_24_5 : FieldAt Tryz.prog 24 5 5 := FieldAt.mk Tryz.underlying24 rfl (by kernel_rfl) rfl
theorem fld_24_6 : FieldAt Tryz.prog 24 6 6 := FieldAt.mk Tryz.underlying24 rfl (by kernel_rfl) rfl
theorem fld_34_0 : FieldAt Tryz.prog 34 0 0 := FieldAt.mk Tryz.underlying34 rfl (by kernel_rfl) rfl
theorem fld_34_1 : FieldAt Tryz.prog 34 1 1 := FieldAt.mk Tryz.underlying34 rfl (by kernel_rfl) rfl
theorem fld_34_2 : FieldAt Tryz.prog 34 2 2 := FieldAt.mk Tryz.underlying34 rfl (by kernel_rfl) rfl
theorem fld_34_3 : FieldAt Tryz.prog 34 3 3 := FieldAt.mk Tryz.underlying34 rfl (by kernel_rfl) rfl
theorem fld_34_4 : FieldAt Tryz.prog 34 4 4 := FieldAt.mk Tryz.underlying34 rfl (by kernel_rfl) rfl
theorem fld_34_5 : FieldAt Tryz.prog 34 5 5 := FieldAt.mk Tryz.underlying34 rfl (by kernel_rfl) rfl
theorem fld_55_0 : FieldAt Tryz.prog 55 0 0 := FieldAt.mk Tryz.underlying55 rfl (by kernel_rfl) rfl
theorem fld_55_1 : FieldAt Tryz.prog 55 1 1 := FieldAt.mk Tryz.underlying55 rfl (by kernel_rfl) rfl
theorem fld_55_10 : FieldAt Tryz.prog 55 10 10 := FieldAt.mk Tryz.underlying55 rfl (by kernel_rfl) rfl
theorem fld_55_11 : FieldAt Tryz.prog 55 11 11 := FieldAt.mk Tryz.underlying55 rfl (by kernel_rfl) rfl
theorem fld_55_12 : FieldAt Tryz.prog 55 12 18 := FieldAt.mk Tryz.underlying55 rfl (by kernel_rfl) rfl
theorem fld_55_13 : FieldAt Tryz.prog 55 13 25 := FieldAt.mk Tryz.underlying55 rfl (by kernel_rfl) rfl
theorem fld_55_14 : FieldAt Tryz.prog 55 14 26 := FieldAt.mk Tryz.underlying55 rfl (by kernel_rfl) rfl
theorem fld_55_15 : FieldAt Tryz.prog 55 15 27 := FieldAt.mk Tryz.underlying55 rfl (by kernel_rfl) rfl
theorem fld_55_16 : FieldAt Tryz.prog 55 16 28 := FieldAt.mk Tryz.underlying55 rfl (by kernel_rfl) rfl
theorem fld_55_2 : FieldAt Tryz.prog 55 2 2 := FieldAt.mk Tryz.underlying55 rfl (by kernel_rfl) rfl
theorem fld_55_3 : FieldAt Tryz.prog 55 3 3 := FieldAt.mk Tryz.underlying55 rfl (by kernel_rfl) rfl
theorem fld_55_4 : FieldAt Tryz.prog 55 4 4 := FieldAt.mk Tryz.underlying55 rfl (by kernel_rfl) rfl
theorem fld_55_5 : FieldAt Tryz.prog 55 5 5 := FieldAt.mk Tryz.underlying55 rfl (by kernel_rfl) rfl
theorem fld_55_6 : FieldAt Tryz.prog 55 6 6 := FieldAt.mk Tryz.underlying55 rfl (by kernel_rfl) rfl
theorem fld_55_7 : FieldAt Tryz.prog 55 7 7 := FieldAt.mk Tryz.underlying55 rfl (by kernel_rfl) rfl
theorem fld_55_8 : FieldAt Tryz.prog 55 8 8 := FieldAt.mk Tryz.underlying55 rfl (by kernel_rfl) rfl
theorem fld_55_9 : FieldAt Tryz.prog 55 9 9 := FieldAt.mk Tryz.underlying55 rfl (by kernel_rfl) rfl
theorem fld_65_0 : FieldAt Tryz.prog 65 0 0 := FieldAt.mk Tryz.underlying65 rfl (by kernel_rfl) rfl
theorem fld_65_1 : FieldAt Tryz.prog 65 1 1 := FieldAt.mk Tryz.underlying65 rfl (by kernel_rfl) rfl
theorem fld_68_0 : FieldAt Tryz.prog 68 0 0 := FieldAt.mk Tryz.underlying68 rfl (by kernel_rfl) rfl
theorem fld_68_1 : FieldAt Tryz.prog 68 1 1 := FieldAt.mk Tryz.underlying68 rfl (by kernel_rfl) rfl
theorem fld_68_2 : FieldAt Tryz.prog 68 2 2 := FieldAt.mk Tryz.underlying68 rfl (by kernel_rfl) rfl
theorem fld_68_3 : FieldAt Tryz.prog 68 3 3 := FieldAt.mk Tryz.underlying68 rfl (by kernel_rfl) rfl
theorem fld_70_0 : FieldAt Tryz.prog 70 0 0 := FieldAt.mk Tryz.underlying70 rfl (by kernel_rfl) rfl
theorem fld_70_1 : FieldAt Tryz.prog 70 1 1 := FieldAt.mk Tryz.underlying70 rfl (by kernel_rfl) rfl
theorem fld_70_2 : FieldAt Tryz.prog 70 2 3 := FieldAt.mk Tryz.underlying70 rfl (by kernel_rfl) rfl
theorem fld_70_3 : FieldAt Tryz.prog 70 3 4 := FieldAt.mk Tryz.underlying70 rfl (by kernel_rfl) rfl
theorem fld_70_4 : FieldAt Tryz.prog 70 4 5 := FieldAt.mk Tryz.underlying70 rfl (by kernel_rfl) rfl
theorem fld_70_5 : FieldAt Tryz.prog 70 5 6 := FieldAt.mk Tryz.underlying70 rfl (by kernel_rfl) rfl
theorem ok_148 : FnOk Tryz.prog 148 := ⟨⟨_, Tryz.func148, by kernel_rfl, rfl⟩⟩
theorem ok_149 : FnOk Tryz.prog 149 := ⟨⟨_, Tryz.func149, by kernel_rfl, rfl⟩⟩
theorem ok_150 : FnOk Tryz.prog 150 := ⟨⟨_, Tryz.func150, by kernel_rfl, rfl⟩⟩
theorem ok_198 : FnOk Tryz.prog 198 := ⟨⟨_, Tryz.func198, by kernel_rfl, rfl⟩⟩
theorem ok_199 : FnOk Tryz.prog 199 := ⟨⟨_, Tryz.func199, by kernel_rfl, rfl⟩⟩
theorem ok_200 : FnOk Tryz.prog 200 := ⟨⟨_, Tryz.func200, by kernel_rfl, rfl⟩⟩
theorem ok_201 : FnOk Tryz.prog 201 := ⟨⟨_, Tryz.func201, by kernel_rfl, rfl⟩⟩
theorem ok_202 : FnOk Tryz.prog 202 := ⟨⟨_, Tryz.func202, by kernel_rfl, rfl⟩⟩
theorem ok_203 : FnOk Tryz.prog 203 := ⟨⟨_, Tryz.func203, by kernel_rfl, rfl⟩⟩
theorem ok_204 : FnOk Tryz.prog 204 := ⟨⟨_, Tryz.func204, by kernel_rfl, rfl⟩⟩
theorem ok_205 : FnOk Tryz.prog 205 := ⟨⟨_, Tryz.func205, by kernel_rfl, rfl⟩⟩
theorem ok_206 : FnOk Tryz.prog 206 := ⟨⟨_, Tryz.func206, by kernel_rfl, rfl⟩⟩
theorem ok_207 : FnOk Tryz.prog 207 := ⟨⟨_, Tryz.func207, by kernel_rfl, rfl⟩⟩
theorem ok_208 : FnOk Tryz.prog 208 := ⟨⟨_, Tryz.func208, by kernel_rfl, rfl⟩⟩
theorem ok_209 : FnOk Tryz.prog 209 := ⟨⟨_, Tryz.func209, by kernel_rfl, rfl⟩⟩
theorem ok_247 : FnOk Tryz.prog 247 := ⟨⟨_, Tryz.func247, by kernel_rfl, rfl⟩⟩
theorem ok_249 : FnOk Tryz.prog 249 := ⟨⟨_, Tryz.func249, by kernel_rfl, rfl⟩⟩
theorem ok_250 : FnOk Tryz.prog 250 := ⟨⟨_, Tryz.func250, by kernel_rfl, rfl⟩⟩
theorem ok_251 : FnOk Tryz.prog 251 := ⟨⟨_, Tryz.func251, by kernel_rfl, rfl⟩⟩
theorem ok_252 : FnOk Tryz.prog 252 := ⟨⟨_, Tryz.func252, by kernel_rfl, rfl⟩⟩
theorem ok_253 : FnOk Tryz.prog 253 := ⟨⟨_, Tryz.func253, by kernel_rfl, rfl⟩⟩
theorem ok_254 : FnOk Tryz.prog 254 := ⟨⟨_, Tryz.func254, by kernel_rfl, rfl⟩⟩
theorem ok_255 : FnOk Tryz.prog 255 := ⟨⟨_, Tryz.func255, by kernel_rfl, rfl⟩⟩
theorem ok_256 : FnOk Tryz.prog 256 := ⟨⟨_, Tryz.func256, by kernel_rfl, rfl⟩⟩
theorem ok_257 : FnOk Tryz.prog 257 := ⟨⟨_, Tryz.func257, by kernel_rfl, rfl⟩⟩
theorem ok_290 : FnOk Tryz.prog 290 := ⟨⟨_, Tryz.func290, by kernel_rfl, rfl⟩⟩
theorem ok_291 : FnOk Tryz.prog 291 := ⟨⟨_, Tryz.func291, by kernel_rfl, rfl⟩⟩
theorem ok_292 : FnOk Tryz.prog 292 := ⟨⟨_, Tryz.func292, by kernel_rfl, rfl⟩⟩
theorem ok_293 : FnOk Tryz.prog 293 := ⟨⟨_, Tryz.func293, by kernel_rfl, rfl⟩⟩
theorem ok_294 : FnOk Tryz.prog 294 := ⟨⟨_, Tryz.func294, by kernel_rfl, rfl⟩⟩
theorem ok_310 : FnOk Tryz.prog 310 := ⟨⟨_, Tryz.func310, by kernel_rfl, rfl⟩⟩
theorem ok_74 : FnOk Tryz.prog 74 := ⟨⟨_, Tryz.func74, by kernel_rfl, rfl⟩⟩
theorem one_205 : OneTy Tryz.prog 205 := ⟨⟨_, Tryz.underlying205, rfl⟩, by kernel_rfl⟩
theorem one_243 : OneTy Tryz.prog 243 := ⟨⟨_, Tryz.underlying243, rfl⟩, by kernel_rfl⟩
theorem one_25 : OneTy Tryz.prog 25 := ⟨⟨_, Tryz.underlying25, rfl⟩, by kernel_rfl⟩
theorem one_4 : OneTy Tryz.prog 4 := ⟨⟨_, Tryz.underlying4, rfl⟩, by kernel_rfl⟩
theorem one_50 : OneTy Tryz.prog 50 := ⟨⟨_, Tryz.underlying50, rfl⟩, by kernel_rfl⟩
theorem one_51 : OneTy Tryz.prog 51 := ⟨⟨_, Tryz.underlying51, rfl⟩, by kernel_rfl⟩
theorem one_52 : OneTy Tryz.prog 52 := ⟨⟨_, Tryz.underlying52, rfl⟩, by kernel_rfl⟩
theorem one_53 : OneTy Tryz.prog 53 := ⟨⟨_, Tryz.underlying53, rfl⟩, by kernel_rfl⟩
theorem one_66 : OneTy Tryz.prog 66 := ⟨⟨_, Tryz.underlying66, rfl⟩, by kernel_rfl⟩
theorem one_9 : OneTy Tryz.prog 9 := ⟨⟨_, Tryz.underlying9, rfl⟩, by kernel_rfl⟩
theorem row_108 : RowTy Tryz.prog 108 11 := ⟨⟨_, Tryz.underlying108, rfl⟩, by kernel_rfl⟩
theorem row_122 : RowTy Tryz.prog 122 7 := ⟨⟨_, Tryz.underlying122, rfl⟩, by kernel_rfl⟩
theorem row_126 : RowTy Tryz.prog 126 8 := ⟨⟨_, Tryz.underlying126, rfl⟩, by kernel_rfl⟩
theorem row_129 : RowTy Tryz.prog 129 2 := ⟨⟨_, Tryz.underlying129, rfl⟩, by kernel_rfl⟩
theorem row_165 : RowTy Tryz.prog 165 4 := ⟨⟨_, Tryz.underlying165, rfl⟩, by kernel_rfl⟩
theorem row_55 : RowTy Tryz.prog 55 29 := ⟨⟨_, Tryz.underlying55, rfl⟩, by kernel_rfl⟩
theorem row_70 : RowTy Tryz.prog 70 10 := ⟨⟨_, Tryz.underlying70, rfl⟩, by kernel_rfl⟩
theorem slt_297 : SliceTy Tryz.prog 297 243 1 := ⟨Tryz.underlying297, by kernel_rfl⟩
theorem zero_108 : ZeroOf Tryz.prog 108 [.int .i64 0, .int .i64 0, .int .i64 0, .int .i64 0, .int .i64 0, .int .i64 0, .string ByteArray.empty, .string ByteArray.empty, .int .i64 0, .int .i64 0, .int .i64 0] := ZeroOf.mk (by kernel_rfl)
theorem zero_122 : ZeroOf Tryz.prog 122 [.int .i64 0, .int .i64 0, .bool false, .int .i64 0, .int .i64 0, .int .i64 0, .int .i64 0] := ZeroOf.mk (by kernel_rfl)
theorem zero_126 : ZeroOf Tryz.prog 126 [.int .i64 0, .int .i64 0, .string ByteArray.empty, .string ByteArray.empty, .int .i64 0, .int .i64 0, .int .i64 0, .int .i64 0] := ZeroOf.mk (by kernel_rfl)
theorem zero_129 : ZeroOf Tryz.prog 129 [.int .i64 0, .int .i64 0] := ZeroOf.mk (by kernel_rfl)
theorem zero_165 : ZeroOf Tryz.prog 165 [.int .i64 0, .int .i64 0, .int .i64 0, .int .i64 0] := ZeroOf.mk (by kernel_rfl)
theorem zero_3 : ZeroOf Tryz.prog 3 [.int .i64 0] := ZeroOf.mk (by kernel_rfl)
theorem zero_35 : ZeroOf Tryz.prog 35 [.slice none 0 0] := ZeroOf.mk (by kernel_rfl)
theorem zero_55 : ZeroOf Tryz.prog 55 [.int .i64 0, .int .i64 0, .bool false, .string ByteArray.empty, .string ByteArray.empty, .int .i64 0, .slice none 0 0, .slice none 0 0, .slice none 0 0, .slice none 0 0, .slice none 0 0, .int .i64 0, .int .i64 0, .int .i64 0, .string ByteArray.empty, .string ByteArray.empty, .int .i64 0, .int .i64 0, .int .i64 0, .int .i64 0, .int .i64 0, .string ByteArray.empty, .string ByteArray.empty, .int .i64 0, .int .i64 0, .slice none 0 0, .int .i64 0, .int .i64 0, .int .i64 0] := ZeroOf.mk (by kernel_rfl)
theorem zero_70 : ZeroOf Tryz.prog 70 [.string ByteArray.empty, .int .i64 0, .int .i64 0, .int .i64 0, .int .i64 0, .slice none 0 0, .int .i64 0, .int .i64 0, .int .i64 0, .int .i64 0] := ZeroOf.mk (by kernel_rfl)
end Go.Proofs.YtmpoffijcfaalaaGreat.Ref

/- What the reference reads with. No program. -/

namespace Go.YtmpoffijcfaalaaGreat
open Go.Eng

@[reducible] def rd2 (p : Nat) (bv : Value) (s : Rd) : OwnE := bl p 264 [bv, .int .i64 (s.pos : Int), .int .i64 (s.fault : Int)]
def numTup2 (pos : Nat) (x : Nat × Nat × Nat) : Value := .tuple #[.int .u64 (x.1 : Int), .int .i64 ((if x.2.2 = 0 then pos + x.2.1 else 0 : Nat) : Int), .int .i64 (x.2.2 : Int)]
theorem numD_bad {i v : Nat} {c : UInt8} {r : List UInt8} (h : (i = 9 ∧ 1 < c.toNat) ∨ (0 < i ∧ c.toNat = 0)) : numD i v (c :: r) = (0, 0, 21) := by
 simp only [numD]
 split
 ·
  rfl
 ·
  split
  ·
   omega
  ·
   split
   ·
    rfl
   ·
    omega
theorem numD_more {i v : Nat} {c : UInt8} {r : List UInt8} (h : ¬ ((i = 9 ∧ 1 < c.toNat) ∨ (0 < i ∧ c.toNat = 0))) (h2 : 128 ≤ c.toNat) : numD i v (c :: r) = numD (i + 1) (v + c.toNat % 128 * 2 ^ (7 * i)) r := by
 simp only [numD]
 rw [if_neg (by omega), if_pos h2]
theorem numD_last {i v : Nat} {c : UInt8} {r : List UInt8} (h : ¬ ((i = 9 ∧ 1 < c.toNat) ∨ (0 < i ∧ c.toNat = 0))) (h2 : ¬ 128 ≤ c.toNat) : numD i v (c :: r) = (v + c.toNat % 128 * 2 ^ (7 * i), i + 1, 0) := by
 simp only [numD]
 rw [if_neg (by omega), if_neg h2, if_neg (by omega)]
theorem num_sum {i v : Nat} {c : UInt8} (hi : i ≤ 9) (hv : v < 2 ^ (7 * i)) (h : ¬ ((i = 9 ∧ 1 < c.toNat) ∨ (0 < i ∧ c.toNat = 0))) : v + c.toNat % 128 * 2 ^ (7 * i) < 2 ^ 64 := by
 by_cases h9 : i = 9
 ·
  subst h9
  have h1 : c.toNat % 128 ≤ 1 := by omega
  have h2 : c.toNat % 128 * 2 ^ (7 * 9) ≤ 1 * 2 ^ (7 * 9) := Nat.mul_le_mul_right _ h1
  simp only [Nat.reduceMul, Nat.reducePow] at hv h2 ⊢
  omega
 ·
  have h := shl_lt (c := c.toNat) hv
  have := pow7_le (i := i + 1) (by omega)
  omega
theorem u64_tmod (c : UInt8) : IntKind.u64.wrap ((c.toNat : Int).tmod 128) = ((c.toNat % 128 : Nat) : Int) := by
 rw [show ((128 : Int)) = ((128 : Nat) : Int) from rfl, ← Int.ofNat_tmod, wrap_u64' (by omega)]
theorem u64_add {a b : Nat} (h : a + b < 2 ^ 64) : IntKind.u64.wrap ((a : Int) + (b : Int)) = ((a + b : Nat) : Int) := by
 rw [← Int.natCast_add, wrap_u64' (by omega)]
theorem u64_half (n : Nat) (h : n < 2 ^ 64) : IntKind.u64.wrap ((n : Int).tdiv 2) = ((n / 2 : Nat) : Int) := by
 rw [show ((2 : Int)) = ((2 : Nat) : Int) from rfl, ← Int.ofNat_tdiv, wrap_u64' (by omega)]
theorem u64_odd (n : Nat) : (n : Int).tmod 2 = ((n % 2 : Nat) : Int) := by
 rw [show ((2 : Int)) = ((2 : Nat) : Int) from rfl, ← Int.ofNat_tmod]
theorem step_bad {s : Rd} {n e : Nat} (hf : s.fault = 0) (he : e ≠ 0) : s.step n e = ⟨s.pos, e⟩ := by
 unfold Rd.step
 rw [if_neg (by omega), if_pos he]
theorem step_ok {s : Rd} {n e : Nat} (hf : s.fault = 0) (he : e = 0) : s.step n e = ⟨s.pos + n, 0⟩ := by
 unfold Rd.step
 rw [if_neg (by omega), if_neg (by omega), hf]
theorem val_bad {α : Type} {s : Rd} {d x : α} {e : Nat} (he : e ≠ 0) : s.val d x e = d := by
 unfold Rd.val
 rw [if_pos he]
 split <;> rfl
theorem val_ok {α : Type} {s : Rd} {d x : α} {e : Nat} (hf : s.fault = 0) (he : e = 0) : s.val d x e = x := by
 unfold Rd.val
 rw [if_neg (by omega), if_neg (by omega)]
theorem rdNum_stop {bs : List UInt8} {s : Rd} (h : s.fault ≠ 0) : rdNum bs s = (0, s) := by
 simp only [rdNum, rdOf, Rd.val, Rd.step, if_pos h]
theorem rdByte_stop {bs : List UInt8} {s : Rd} (h : s.fault ≠ 0) : rdByte bs s = (0, s) := by
 simp only [rdByte, rdOf, Rd.val, Rd.step, if_pos h]
end Go.YtmpoffijcfaalaaGreat

/- Walks of the readers of the reference: written by specs4.py. -/

namespace Go.Proofs.YtmpoffijcfaalaaGreat.Ref
open Go.Eng Go.YtmpoffijcfaalaaGreat

theorem fail_c (p : Nat) (bv : Value) (bs : List UInt8) (s : Rd) (e : Nat) (hf : s.fault = 0) : Fnc Tryz.prog 286 [.pointer (some ⟨p, 0, none⟩), .int .i64 (e : Int)] [rd2 p bv s] [⟨bv, bs⟩] (fun (_ : Unit) _ => True) (fun _ _ => [rd2 p bv ⟨s.pos, e⟩]) (fun _ _ => []) := by
 refine Fnc.proof Tryz.func286 G 13 G G fun X w => sq<|rg<|mv G G<|nc G G<|fa G fld_264_2 G<|ldB 0 G G one_38 G G<|eqI G G G<|nl<|nx<|cdP G (fun h8 => ?_) (fun h8 => ?_)
 ·
  exact rg<|mv G G<|mv G G<|nc G G<|fa G fld_264_2 G<|stB 0 G G G one_38 G (Nat.lt_of_lt_of_le (Nat.lt_succ_self _) (Nat.le_of_ble_eq_true G))<|nl<|fR0N () G trivial G Sn
 ·
  exact absurd (show (s.fault : Int) = 0 by rw [hf]; rfl) h8 --#done

theorem new_c (sv : Value) (bs : List UInt8) (hlen : bs.length ≤ 140737488355328) : Fnc Tryz.prog 198 [sv] [] [⟨sv, bs⟩] (fun (y : Nat × Value) v => v = .pointer (some ⟨y.1, 0, none⟩)) (fun y _ => [rd2 y.1 y.2 ⟨0, 0⟩]) (fun y _ => [⟨y.2, bs⟩]) := by
 refine Fnc.proof Tryz.func198 G 8 G G fun X w => sq<|rg<|asg G G<|nl<|nx<|sq<|rg<|bs0 app_35 G fun b3 => rwB (α := UInt8) [] [] G G (fun _ _ _ => trivial) G<|mv G G<|ap 0 0 G G G G app_35 (by simpa using hlen) (by simpa using hlen) G fun v5 => frRL<|asSl 0 G ?_
 rintro ⟨A, cc, rfl⟩
 exact bd (ps := [(0, .tmp 5)]) (cs := [.slice A ([] ++ bs).length cc, .int .i64 0, .int .i64 0]) (by rfl) (by kernel_rfl) G<|bx G G G fun b7 => asg G G<|nl<|nx<|rt<|fR1 (b7, _) G G G G (Sc 0 G Sn)

theorem number_c (p : Nat) (bv : Value) (bs : List UInt8) (s : Rd) (hp : s.pos ≤ bs.length) : Fnc Tryz.prog 309 [.pointer (some ⟨p, 0, none⟩)] [rd2 p bv s] [⟨bv, bs⟩] (fun (_ : Unit) v => v = numTup2 s.pos (numD 0 0 (bs.drop s.pos))) (fun _ _ => [rd2 p bv s]) (fun _ _ => []) := by
 refine Fnc.proof Tryz.func309 G 66 G G fun X w => gtC (q := bs.length ≤ 9223372036854775807) (fun S w h => list_len (h _ (List.mem_of_getElem? (i := 0) G))) fun hlen => sq<|rg<|asg G G<|asg G G<|asg G G<|nl<|nx<|sq<|rg<|asg G G<|nl<|nx ?_
 refine sq<|rg<|asg G G<|nl<|nx<|bk<|lpC (σ := Nat × Nat) [(0, _)] _ (fun i C => (5, .int .u64 (i.2 : Int)) :: (6, .int .i64 (i.1 : Int)) :: C) (fun i => i.1 ≤ 9 ∧ s.pos + i.1 ≤ bs.length ∧ i.2 < 2 ^ (7 * i.1) ∧ numD 0 0 (bs.drop s.pos) = numD i.1 i.2 (bs.drop (s.pos + i.1))) (fun i => bs.length - i.1) (0, 0) ⟨G, trivial⟩ (Sc 0 G Sn) ⟨by decide, hp, by decide, G⟩ ⟨G, G, G, trivial⟩ ?_
 rintro ⟨i, v⟩ ⟨hi, hs, hv, he⟩
 simp only at hi hs hv he
 refine sq<|bk<|sq<|sq<|rgQ mixed (by kernel_rfl)<|mv G G<|nc G G<|fa G fld_264_1 G<|ldB 0 G G one_3 G G<|mv G G<|adI G G (inI (by omega) (by omega)) G<|mv G G<|nc G G<|fa G fld_264_0 G ?_
 refine ldB 0 G G one_35 G G<|lnP 0 G G Tryz.underlying35 G fun l20 => geI G G G<|nlQ<|nx<|cdP G (fun h21 => ?_) (fun h21 => ?_)
 ·
  have hd : bs.drop (s.pos + i) = [] := List.drop_eq_nil_of_le (by omega)
  rw [hd] at he
  have he : numD 0 0 (bs.drop s.pos) = (0, 0, 20) := he
  rw [he]
  exact sq<|rg<|asg G G<|asg G G<|asg G G<|nl<|nx<|rt<|tR<|bR<|tR<|tR<|bR<|fR3 () G G G G G G Sn
 ·
  obtain ⟨c, hc⟩ : ∃ c, bs[s.pos + i]? = some c := ⟨_, getE (by omega)⟩
  have hd := drop_at hc
  have hcl := c.toNat_lt
  refine sk<|nx<|sq<|rgQ mixed (by kernel_rfl)<|mv G G<|nc G G<|fa G fld_264_0 G<|ldB 0 G G one_35 G G<|mv G G<|nc G G<|fa G fld_264_1 G<|ldB 0 G G one_3 G G<|mv G G<|adI G G (inI (by omega) (by omega)) G ?_
  refine ixP 0 G G G slt_35 (by omega) hc G fun v32 => ldV 0 G G one_5 G fun w33 => ?_
  refine asg G G<|nlQ<|nx<|sq<|sq<|rg<|mv G G<|eqI G G G<|mv G G ?_
  apply jo [(0, _), (5, _), (6, _), (7, _)] ⟨rfl, rfl, rfl, rfl, trivial⟩
  ·
   intro K39
   refine spA (i := 36) G (fun h36 => ?_) (fun h36 => ?_)
   ·
    have p36 := of_decide_eq_true h36
    exact gY G G G<|mv G G<|gY G G G<|gtI G G G<|pkT G G G<|jA K39 h36 ⟨G, G, G, G, trivial⟩ Sr
   ·
    exact gS (g := [_, _]) G<|pkF G G G<|jA0 K39 h36 ⟨G, G, G, G, trivial⟩ Sr
  refine mv G G ?_
  apply jo [(0, _), (5, _), (6, _), (7, _)] ⟨rfl, rfl, rfl, rfl, trivial⟩
  ·
   intro K47
   refine spO (i := 40) G (fun h40 => ?_) (fun h40 => ?_)
   ·
    refine gY G G G<|mv G G<|gY G G G<|gtI G G G<|gY G G G<|mv G G ?_
    apply jo [(0, _), (5, _), (6, _), (7, _), (40, _)] ⟨rfl, rfl, rfl, rfl, rfl, trivial⟩
    ·
     intro K46
     refine spA (i := 43) G (fun h43 => ?_) (fun h43 => ?_)
     ·
      have p43 := of_decide_eq_true h43
      exact gY G G G<|mv G G<|gY G G G<|eqI G G G<|gY G G G<|pkT G G G<|jA K46 h43 ⟨G, G, G, G, G, trivial⟩ Sr
     ·
      exact gS (g := [_, _]) G<|gY G G G<|pkF G G G<|jA0 K46 h43 ⟨G, G, G, G, G, trivial⟩ Sr
    exact pkF G G G<|jR K47 h40 ⟨G, G, G, G, trivial⟩ Sr
   ·
    exact gS (g := [_, _, _, _, _, _]) G<|pkT G G G<|jR0 K47 h40 ⟨G, G, G, G, trivial⟩ Sr
  refine nl<|nx<|cdB G (fun h47 => ?_) (fun h47 => ?_)
  ·
   have q47 := h47
   simp at q47
   have q47 : (i = 9 ∧ 1 < c.toNat) ∨ (0 < i ∧ c.toNat = 0) := by omega
   rw [hd, numD_bad q47] at he
   rw [he]
   exact sq<|rg<|asg G G<|asg G G<|asg G G<|nl<|nx<|rt<|tR<|bR<|tR<|tR<|bR<|fR3 () G G G G G G Sn
  ·
   have q47 := h47
   simp at q47
   have q47 : ¬ ((i = 9 ∧ 1 < c.toNat) ∨ (0 < i ∧ c.toNat = 0)) := by omega
   refine sk<|nx<|sq<|rg<|mv G G<|mv G G<|reW G G (by decide) G<|cv Tryz.underlying5 Tryz.underlying209 G (u64_tmod c) G<|mv G G<|muI G G (inI (by omega) (by omega)) G<|shL G G (by omega) (shl_k _ (7 * i) (Nat.lt_of_le_of_lt (Nat.le_add_left _ _) (num_sum hi hv q47)) (by omega)) G<|adR G G (u64_add (num_sum hi hv q47)) G<|asg G G<|nl ?_
   refine nx<|sq<|rg<|mv G G<|ltI G G G<|nl<|nx<|cdP G (fun h57 => ?_) (fun h57 => ?_)
   ·
    rw [hd, numD_last q47 (by omega)] at he
    rw [he]
    refine sq<|rgQ mixed (by kernel_rfl)<|mv G G<|mv G G<|nc G G<|fa G fld_264_1 G<|ldB 0 G G one_3 G G<|mv G G<|adI G G (inI (by omega) (by omega)) G<|adI G G (inI (by omega) (by omega)) G<|asg G G<|asg G G<|asg G G<|nlQ ?_
    exact nx<|rt<|bR<|tR<|tR<|bR<|fR3 () G G G G (congrArg (fun x : Int => Value.tuple #[.int .u64 ((v + c.toNat % 128 * 2 ^ (7 * i) : Nat) : Int), .int .i64 x, .int .i64 0]) (by show (s.pos : Int) + (i : Int) + 1 = ((s.pos + (i + 1) : Nat) : Int); omega)) G Sn
   ·
    refine sk<|bN<|nx<|rg<|mv G G<|adI G G (inI (by omega) (by omega)) G<|asg G G<|nl ?_
    exact ag ((i + 1, v + c.toNat % 128 * 2 ^ (7 * i)) : Nat × Nat) ⟨by show i + 1 ≤ 9; omega, by show s.pos + (i + 1) ≤ bs.length; omega, shl_lt hv, by show numD 0 0 _ = _; rw [he, hd, numD_more q47 (by omega)]; rfl⟩ (by show bs.length - (i + 1) < bs.length - i; omega) ⟨G, G, G, trivial⟩ G (Sc 1 G Sn)

theorem num_c (p : Nat) (bv : Value) (bs : List UInt8) (s : Rd)  (hp : s.pos ≤ bs.length) : Fnc Tryz.prog 288 [.pointer (some ⟨p, 0, none⟩)] [rd2 p bv s] [⟨bv, bs⟩] (fun (_ : Unit) v => v = .int .u64 ((rdNum bs s).1 : Int)) (fun _ _ => [rd2 p bv (rdNum bs s).2]) (fun _ _ => []) := by
 refine Fnc.proof Tryz.func288 G 27 G G fun X w => ?_
 have hb := numD_bd (bs.drop s.pos) 0 0 (by decide) (by decide)
 rcases hN : numD 0 0 (bs.drop s.pos) with ⟨x, n, e⟩
 rw [hN] at hb
 simp only at hb
 have hr : rdNum bs s = (s.val 0 x e, s.step n e) := by simp only [rdNum, rdByte, rdCount, rdText, rdOf, hN]
 refine sq<|rg<|asg G G<|nl<|nx<|sq<|sq<|rg<|mv G G<|nc G G<|fa G fld_264_2 G<|ldB 0 G G one_38 G G<|neI G G G<|nl ?_
 refine nx<|cdN G (fun h10 => ?_) (fun h10 => ?_)
 ·
  have hf : s.fault ≠ 0 := by omega
  rw [rdNum_stop hf]
  exact sq<|rg<|asg G G<|nl<|nx<|rt<|tR<|fR1 () G G G G Sn
 ·
  have hf : s.fault = 0 := by omega
  rw [hr]
  refine sk<|nx<|sq<|rg<|mv G G<|cf1 0 (number_c p bv bs s hp) ok_309 G G (Sc 0 G Sn) G fun _ v13 h13 => ?_
  rw [hN] at h13
  have h13 : v13 = .tuple #[.int .u64 (x : Int), .int .i64 ((if e = 0 then s.pos + n else 0 : Nat) : Int), .int .i64 (e : Int)] := h13
  subst h13
  refine mv G G<|xt G G G<|xt G G G<|xt G G G<|asg G G<|asg G G<|asg G G<|nl<|nx<|sq<|sq<|rg<|mv G G<|neI G G G ?_
  refine nl<|nx<|cdN G (fun h18 => ?_) (fun h18 => ?_)
  ·
   have he : e ≠ 0 := by omega
   rw [val_bad he, step_bad hf he]
   refine sq<|rg<|mv G G<|mv G G<|cf1 0 (fail_c p bv bs s e (by first | exact hf | rfl)) ok_286 G G (Sc 0 G Sn) G fun _ v21 _ => nl<|nx<|sq<|rg<|asg G G<|nl<|nx<|rt<|tR ?_
   exact fR1 () G G G G Sn
  ·
   have he : e = 0 := by omega
   rw [val_ok hf he, step_ok hf he]
   subst he
   refine sk<|nx<|sq<|rg<|mv G G<|mv G G<|nc G G<|fa G fld_264_1 G<|stB 0 G G G one_3 G (Nat.lt_of_lt_of_le (Nat.lt_succ_self _) (Nat.le_of_ble_eq_true G))<|nl<|nx<|sq<|rg<|mv G G ?_
   exact asg G G<|nl<|nx<|rt<|fR1 () G G G (by simp only [hf]; rfl) Sn
end Go.Proofs.YtmpoffijcfaalaaGreat.Ref

/- How flags, counts and texts are read in steps. No program. -/

namespace Go.YtmpoffijcfaalaaGreat
open Go.Eng

theorem zag_odd {v : Nat} (h : v % 2 = 1) : zag v = -((v / 2 : Nat) : Int) - 1 := if_pos h
theorem zag_even {v : Nat} (h : ¬ v % 2 = 1) : zag v = ((v / 2 : Nat) : Int) := if_neg h
theorem i64_half {v : Nat} (h : v < 2 ^ 64) : IntKind.i64.wrap ((v / 2 : Nat) : Int) = ((v / 2 : Nat) : Int) := i64_of_nat (by omega)
/-- A byte that there is. -/
theorem byteD_some {bs : List UInt8} {i : Nat} {c : UInt8} (h : bs[i]? = some c) : byteD (bs.drop i) = (c, 1, 0) := by
 rw [drop_at h]
 rfl
theorem byteD_none {bs : List UInt8} {i : Nat} (h : bs.length ≤ i) : byteD (bs.drop i) = (0, 0, 20) := by
 rw [List.drop_eq_nil_of_le h]
 rfl
theorem rdByte_some {bs : List UInt8} {s : Rd} {c : UInt8} (hf : s.fault = 0) (h : bs[s.pos]? = some c) : rdByte bs s = (c, ⟨s.pos + 1, 0⟩) := by
 simp only [rdByte, rdOf, byteD_some h, val_ok hf rfl, step_ok hf rfl]
theorem rdByte_none {bs : List UInt8} {s : Rd} (hf : s.fault = 0) (h : bs.length ≤ s.pos) : rdByte bs s = (0, ⟨s.pos, 20⟩) := by
 simp only [rdByte, rdOf, byteD_none h, val_bad (show (20 : Nat) ≠ 0 by decide), step_bad hf (show (20 : Nat) ≠ 0 by decide)]
/-- A flag is a byte, looked at. -/
theorem rdFlag_byte {bs : List UInt8} {s : Rd} : rdFlag bs s = if 1 < (rdByte bs s).1.toNat then (false, ⟨s.pos, 21⟩) else (decide ((rdByte bs s).1 = 1), (rdByte bs s).2) := by
 by_cases hf : s.fault = 0
 ·
  by_cases hl : s.pos < bs.length
  ·
   obtain ⟨c, hc⟩ : ∃ c, bs[s.pos]? = some c := ⟨_, getE hl⟩
   rw [rdByte_some hf hc]
   simp only [rdFlag, rdOf, drop_at hc, flagD]
   split
   ·
    simp only [val_bad (show (21 : Nat) ≠ 0 by decide), step_bad hf (show (21 : Nat) ≠ 0 by decide)]
   ·
    simp only [val_ok hf rfl, step_ok hf rfl]
  ·
   rw [rdByte_none hf (by omega)]
   simp only [rdFlag, rdOf, List.drop_eq_nil_of_le (show bs.length ≤ s.pos by omega), flagD, val_bad (show (20 : Nat) ≠ 0 by decide), step_bad hf (show (20 : Nat) ≠ 0 by decide)]
   rfl
 ·
  rw [rdByte_stop hf]
  simp only [rdFlag, rdOf, Rd.val, Rd.step]
  rw [if_pos hf, if_pos hf]
  rfl
theorem rdByte_fault {bs : List UInt8} {s : Rd} (h : 1 < (rdByte bs s).1.toNat) : s.fault = 0 ∧ (rdByte bs s).2.fault = 0 := by
 by_cases hf : s.fault = 0
 ·
  refine ⟨hf, ?_⟩
  by_cases hl : s.pos < bs.length
  ·
   obtain ⟨c, hc⟩ : ∃ c, bs[s.pos]? = some c := ⟨_, getE hl⟩
   rw [rdByte_some hf hc]
  ·
   rw [rdByte_none hf (by omega)] at h
   exact absurd (show 1 < (0 : UInt8).toNat from h) (by decide)
 ·
  rw [rdByte_stop hf] at h
  exact absurd (show 1 < (0 : UInt8).toNat from h) (by decide)
/-- A count is a number, looked at. -/
theorem rdCount_num {bs : List UInt8} {m : Int} {s : Rd} : rdCount bs m s = if max m 0 < ((rdNum bs s).1 : Int) then (0, ⟨s.pos, 22⟩) else rdNum bs s := by
 by_cases hf : s.fault = 0
 ·
  rcases hN : numD 0 0 (bs.drop s.pos) with ⟨x, n, e⟩
  have hC := countD_of (most := m) hN
  have hn : rdNum bs s = (s.val 0 x e, s.step n e) := by simp only [rdNum, rdOf, hN]
  by_cases he : e = 0
  ·
   subst he
   by_cases hm : max m 0 < (x : Int)
   ·
    rw [if_pos ⟨rfl, hm⟩] at hC
    have hc : rdCount bs m s = (s.val 0 0 22, s.step 0 22) := by simp only [rdCount, rdOf, hC]
    rw [hc, hn, val_bad (show (22 : Nat) ≠ 0 by decide), step_bad hf (show (22 : Nat) ≠ 0 by decide), val_ok hf rfl, if_pos hm]
   ·
    rw [if_neg (fun h => hm h.2), if_neg (fun h => h rfl)] at hC
    have hc : rdCount bs m s = (s.val 0 x 0, s.step n 0) := by simp only [rdCount, rdOf, hC]
    rw [hc, hn, val_ok hf rfl, if_neg hm]
  ·
   rw [if_neg (fun h => he h.1), if_pos he] at hC
   have hc : rdCount bs m s = (s.val 0 0 e, s.step 0 e) := by simp only [rdCount, rdOf, hC]
   rw [hc, hn, val_bad he, val_bad he, if_neg (by show ¬ max m 0 < ((0 : Nat) : Int); omega), step_bad hf he, step_bad hf he]
 ·
  rw [rdCount_stop hf, rdNum_stop hf, if_neg (by show ¬ max m 0 < ((0 : Nat) : Int); omega)]
theorem rdNum_fault {bs : List UInt8} {s : Rd} (h : 0 < (rdNum bs s).1) : s.fault = 0 ∧ (rdNum bs s).2.fault = 0 := by
 by_cases hf : s.fault = 0
 ·
  refine ⟨hf, ?_⟩
  rcases hN : numD 0 0 (bs.drop s.pos) with ⟨x, n, e⟩
  simp only [rdNum, rdOf, hN] at h ⊢
  by_cases he : e = 0
  ·
   rw [step_ok hf he]
  ·
   rw [val_bad he] at h
   omega
 ·
  rw [rdNum_stop hf] at h
  exact absurd h (Nat.lt_irrefl 0)
theorem rdCount_max {bs : List UInt8} {m : Int} {s : Rd} : ((rdCount bs m s).1 : Int) ≤ max m 0 := by
 simp only [rdCount, rdOf, Rd.val]
 split
 ·
  show ((0 : Nat) : Int) ≤ _
  omega
 ·
  split
  ·
   show ((0 : Nat) : Int) ≤ _
   omega
  ·
   exact (countD_bd _ _).1
theorem txt_eq {bs : List UInt8} {p k : Nat} : (bs.drop p).take k = [] ++ (bs.take (((p : Int) + (k : Int)).toNat)).drop (((p : Int) + (k : Int) - (k : Int)).toNat) := by
 rw [show ((p : Int) + (k : Int)).toNat = p + k by omega, show ((p : Int) + (k : Int) - (k : Int)).toNat = p by omega, List.nil_append, List.drop_take, Nat.add_sub_cancel_left]
/-- A text is a count, and so many bytes. -/
theorem rdText_count {bs : List UInt8} {m : Int} {s : Rd} : rdText bs m s = if (rdCount bs m s).2.fault ≠ 0 then ([], (rdCount bs m s).2) else if bs.length - (rdCount bs m s).2.pos < (rdCount bs m s).1 then ([], ⟨s.pos, 20⟩)
  else ((bs.drop (rdCount bs m s).2.pos).take (rdCount bs m s).1, ⟨(rdCount bs m s).2.pos + (rdCount bs m s).1, 0⟩) := by
 by_cases hf : s.fault = 0
 ·
  rcases hN : countD (bs.drop s.pos) m with ⟨x, n, e⟩
  have hb := (countD_bd (bs.drop s.pos) m).2.1
  rw [hN] at hb
  simp only [List.length_drop] at hb
  have hT := textD_of hN
  have hc : rdCount bs m s = (s.val 0 x e, s.step n e) := by simp only [rdCount, rdOf, hN]
  by_cases he : e = 0
  ·
   subst he
   rw [if_neg (fun h => h rfl), List.length_drop] at hT
   rw [hc, val_ok hf rfl, step_ok hf rfl]
   show _ = if (0 : Nat) ≠ 0 then _ else if bs.length - (s.pos + n) < x then ([], (⟨s.pos, 20⟩ : Rd)) else ((bs.drop (s.pos + n)).take x, ⟨s.pos + n + x, 0⟩)
   rw [if_neg (by decide)]
   by_cases hl : bs.length - s.pos < n + x
   ·
    rw [if_pos hl] at hT
    have ht : rdText bs m s = (s.val [] [] 20, s.step 0 20) := by simp only [rdText, rdOf, hT]
    rw [ht, val_bad (show (20 : Nat) ≠ 0 by decide), step_bad hf (show (20 : Nat) ≠ 0 by decide), if_pos (by omega)]
   ·
    rw [if_neg hl] at hT
    have ht : rdText bs m s = (s.val [] (((bs.drop s.pos).drop n).take x) 0, s.step (n + x) 0) := by simp only [rdText, rdOf, hT]
    rw [ht, val_ok hf rfl, step_ok hf rfl, if_neg (by omega), List.drop_drop, Nat.add_assoc]
  ·
   rw [if_pos he] at hT
   have ht : rdText bs m s = (s.val [] [] e, s.step 0 e) := by simp only [rdText, rdOf, hT]
   rw [hc, ht, val_bad he, val_bad he, step_bad hf he, step_bad hf he, if_pos he]
 ·
  rw [rdCount_stop hf, show rdText bs m s = ([], s) from Prod.ext (rdText_stop1 hf) (rdText_stop hf), if_pos hf]
end Go.YtmpoffijcfaalaaGreat
