/- Numbers, texts and what is read back, as plain lists of bytes; the integer arithmetic of it. No program. -/
import Derived.Test.YtcjaodddckbciaaEng7
namespace Go.Ytcjaodddckbciaa
open Go.Eng

theorem wrap_u8 (u : Nat) : IntKind.u8.wrap (u : Int) = ((u % 256 : Nat) : Int) := by simp [IntKind.wrap, IntKind.signed, IntKind.bits]
theorem wrap_u64 (u : Nat) : IntKind.u64.wrap (u : Int) = ((u % 18446744073709551616 : Nat) : Int) := by simp [IntKind.wrap, IntKind.signed, IntKind.bits]
theorem ofInt_nat (n a : Nat) : (BitVec.ofInt n (a : Int)).toNat = a % 2 ^ n := by simp
theorem or_nat8 {a b : Nat} (ha : a < 256) (hb : b < 256) : bitV .or .u8 (a : Int) (b : Int) = ((a ||| b : Nat) : Int) := by
  have h : a ||| b < 2 ^ 8 := Nat.or_lt_two_pow ha hb
  show IntKind.u8.wrap ((BitVec.ofInt 8 (a : Int) ||| BitVec.ofInt 8 (b : Int)).toNat : Int) = _
  rw [BitVec.toNat_or, ofInt_nat, ofInt_nat]
  rw [Nat.mod_eq_of_lt (show a < 2 ^ 8 from ha), Nat.mod_eq_of_lt (show b < 2 ^ 8 from hb), wrap_u8, Nat.mod_eq_of_lt h]
theorem and_nat8 {a b : Nat} (ha : a < 256) (hb : b < 256) : bitV .and .u8 (a : Int) (b : Int) = ((a &&& b : Nat) : Int) := by
  have h : a &&& b < 2 ^ 8 := Nat.and_lt_two_pow a hb
  show IntKind.u8.wrap ((BitVec.ofInt 8 (a : Int) &&& BitVec.ofInt 8 (b : Int)).toNat : Int) = _
  rw [BitVec.toNat_and, ofInt_nat, ofInt_nat]
  rw [Nat.mod_eq_of_lt (show a < 2 ^ 8 from ha), Nat.mod_eq_of_lt (show b < 2 ^ 8 from hb), wrap_u8, Nat.mod_eq_of_lt h]
theorem or_nat64 {a b : Nat} (ha : a < 2 ^ 64) (hb : b < 2 ^ 64) : bitV .or .u64 (a : Int) (b : Int) = ((a ||| b : Nat) : Int) := by
  have h : a ||| b < 2 ^ 64 := Nat.or_lt_two_pow ha hb
  show IntKind.u64.wrap ((BitVec.ofInt 64 (a : Int) ||| BitVec.ofInt 64 (b : Int)).toNat : Int) = _
  rw [BitVec.toNat_or, ofInt_nat, ofInt_nat]
  rw [Nat.mod_eq_of_lt ha, Nat.mod_eq_of_lt hb, wrap_u64, Nat.mod_eq_of_lt h]
theorem and_nat64 {a b : Nat} (ha : a < 2 ^ 64) (hb : b < 2 ^ 64) : bitV .and .u64 (a : Int) (b : Int) = ((a &&& b : Nat) : Int) := by
  have h : a &&& b < 2 ^ 64 := Nat.and_lt_two_pow a hb
  show IntKind.u64.wrap ((BitVec.ofInt 64 (a : Int) &&& BitVec.ofInt 64 (b : Int)).toNat : Int) = _
  rw [BitVec.toNat_and, ofInt_nat, ofInt_nat]
  rw [Nat.mod_eq_of_lt ha, Nat.mod_eq_of_lt hb, wrap_u64, Nat.mod_eq_of_lt h]

theorem or_128 (u : Nat) : bitV .or .u8 (IntKind.u8.wrap (u : Int)) 128 = ((u % 128 + 128 : Nat) : Int) := by
  rw [wrap_u8]
  have h := or_nat8 (a := u % 256) (b := 128) (by omega) (by decide)
  rw [show ((128 : Int)) = ((128 : Nat) : Int) from rfl, h]
  congr 1
  have e : u % 256 = 128 * (u % 256 / 128) + u % 128 := by omega
  have hr : u % 128 < 2 ^ 7 := by omega
  have h1 : u % 256 / 128 = 0 ∨ u % 256 / 128 = 1 := by omega
  have k : 128 ||| u % 128 = 128 + u % 128 := by
    have := Nat.two_pow_add_eq_or_of_lt hr 1
    simpa using this.symm
  rcases h1 with h1 | h1
  · rw [h1] at e
    rw [e, Nat.mul_zero, Nat.zero_add, Nat.or_comm, k]
    omega
  · rw [h1] at e
    rw [e, Nat.mul_one, ← k, Nat.or_comm, ← Nat.or_assoc, Nat.or_self, k]
    omega
theorem and_127 (c : UInt8) : bitV .and .u8 (c.toNat : Int) 127 = ((c.toNat % 128 : Nat) : Int) := by
  rw [show ((127 : Int)) = ((127 : Nat) : Int) from rfl, and_nat8 c.toNat_lt (by decide)]
  congr 1
  exact Nat.and_two_pow_sub_one_eq_mod c.toNat 7
theorem shr7 (u : Nat) : ((u : Int)).fdiv (2 ^ min (7 : Int).toNat IntKind.u64.bits) = ((u / 128 : Nat) : Int) := by
  rw [Int.fdiv_eq_ediv_of_nonneg _ (by decide)]
  rfl
theorem shr1 (u : Nat) : ((u : Int)).fdiv (2 ^ min (1 : Int).toNat IntKind.u64.bits) = ((u / 2 : Nat) : Int) := by
  rw [Int.fdiv_eq_ediv_of_nonneg _ (by decide)]
  rfl
theorem shl_k (a k : Nat) (h : a * 2 ^ k < 2 ^ 64) (hk : k ≤ 63) : IntKind.u64.wrap ((a : Int) * 2 ^ min ((k : Nat) : Int).toNat IntKind.u64.bits) = ((a * 2 ^ k : Nat) : Int) := by
  have e : min ((k : Nat) : Int).toNat IntKind.u64.bits = k := by simp only [Int.toNat_natCast]; show min k 64 = k; omega
  rw [e, show (a : Int) * 2 ^ k = ((a * 2 ^ k : Nat) : Int) by push_cast; rfl, wrap_u64, Nat.mod_eq_of_lt h]
theorem or_add {v a k : Nat} (hv : v < 2 ^ k) (h : a * 2 ^ k < 2 ^ 64) (hk : k ≤ 63) : bitV .or .u64 (v : Int) ((a * 2 ^ k : Nat) : Int) = ((v + a * 2 ^ k : Nat) : Int) := by
  have hv' : v < 2 ^ 64 := Nat.lt_of_lt_of_le hv (Nat.pow_le_pow_right (by decide) (by omega))
  rw [or_nat64 hv' h, Nat.or_comm, Nat.mul_comm a, ← Nat.two_pow_add_eq_or_of_lt hv]
  congr 1
  omega
theorem and_1 {v : Nat} (hv : v < 2 ^ 64) : bitV .and .u64 (v : Int) 1 = ((v % 2 : Nat) : Int) := by
  rw [show ((1 : Int)) = ((1 : Nat) : Int) from rfl, and_nat64 hv (by decide)]
  congr 1
  exact Nat.and_two_pow_sub_one_eq_mod v 1
theorem or_1 {v : Nat} (hv : v < 2 ^ 63) : bitV .or .u64 ((v * 2 : Nat) : Int) 1 = ((v * 2 + 1 : Nat) : Int) := by
  rw [show ((1 : Int)) = ((1 : Nat) : Int) from rfl, or_nat64 (by omega) (by decide)]
  congr 1
  have := Nat.two_pow_add_eq_or_of_lt (i := 1) (b := 1) (by decide) v
  rw [Nat.mul_comm v 2]
  simpa using this.symm
theorem cpl {x : Int} (h : InI x) : bitV .xor .i64 (if IntKind.i64.signed then -1 else IntKind.i64.max) x = -x - 1 := by
  obtain ⟨h1, h2⟩ := h
  have e : (BitVec.ofInt 64 (-1) ^^^ BitVec.ofInt 64 x) = BitVec.ofInt 64 (-x - 1) := by
    have a : BitVec.ofInt 64 (-1) = BitVec.allOnes 64 := by decide
    rw [a, BitVec.allOnes_xor]
    have : BitVec.ofInt 64 (-x - 1) = ~~~ BitVec.ofInt 64 x := by
      apply BitVec.eq_of_toInt_eq
      rw [BitVec.toInt_not, BitVec.toInt_ofInt]
      have t : (BitVec.ofInt 64 x).toNat = (x % 2 ^ 64).toNat := by simp [BitVec.toNat_ofInt]
      rw [t]
      simp only [Int.bmod]
      omega
    rw [this]
  show IntKind.i64.wrap _ = _
  have : ∀ y : Int, InI y → IntKind.i64.wrap ((BitVec.ofInt 64 y).toNat : Int) = y := by
    intro y hy
    obtain ⟨h3, h4⟩ := hy
    have t : (BitVec.ofInt 64 y).toNat = (y % 2 ^ 64).toNat := by simp [BitVec.toNat_ofInt]
    rw [t]
    simp only [IntKind.wrap, IntKind.signed, IntKind.bits]
    simp
    omega
  rw [← this (-x - 1) ⟨by omega, by omega⟩, ← e]
  rfl
theorem i64_of_nat {v : Nat} (h : v < 9223372036854775808) : IntKind.i64.wrap (v : Int) = (v : Int) := wrap_i64_in ⟨by omega, by omega⟩

/-! ### Numbers as bytes -/
/-- A number as bytes: seven bits a byte, the lowest first. -/
def encNat (v : Nat) : List UInt8 :=
  if h : v < 128 then [UInt8.ofNat v] else UInt8.ofNat (v % 128 + 128) :: encNat (v / 128)
termination_by v
decreasing_by omega
def zig (x : Int) : Nat := if x < 0 then (-x - 1).toNat * 2 + 1 else x.toNat * 2
def zag (v : Nat) : Int := if v % 2 = 1 then -((v / 2 : Nat) : Int) - 1 else ((v / 2 : Nat) : Int)
theorem zag_zig (x : Int) : zag (zig x) = x := by
  unfold zig zag
  split <;> split <;> omega
theorem zig_lt {x : Int} (h : InI x) : zig x < 2 ^ 64 := by
  obtain ⟨h1, h2⟩ := h
  unfold zig
  split <;> omega
theorem zag_in {v : Nat} (h : v < 2 ^ 64) : InI (zag v) := by
  unfold zag
  split <;> constructor <;> omega

/-- The number with which bytes begin (from its place i on, v so far): it, how many bytes it takes, and what is wrong. -/
def numD (i v : Nat) : List UInt8 → Nat × Nat × Nat
  | [] => (0, 0, 20)
  | c :: r =>
    if i = 9 ∧ 1 < c.toNat then (0, 0, 21)
    else if 128 ≤ c.toNat then numD (i + 1) (v + c.toNat % 128 * 2 ^ (7 * i)) r
    else if c.toNat = 0 ∧ 0 < i then (0, 0, 21)
    else (v + c.toNat % 128 * 2 ^ (7 * i), i + 1, 0)
end Go.Ytcjaodddckbciaa
