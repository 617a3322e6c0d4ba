/- Part 14 of the proof of auditOrder_holds: CodecA, CodecB, DutC, DutP, DutP2, DutP4, DutS3, DutS4, DutS5. Every text below begins with what it shows. -/
import Derived.Test.YtmpoffijcfaalaaGreatAu13

/- Numbers, texts and what is read back, as plain lists of bytes; the integer arithmetic of it. No program. -/

namespace Go.YtmpoffijcfaalaaGreat
open Go.Eng

theorem wrap_u8 (u : Nat) : IntKind.u8.wrap (u : Int) = ((u % 256 : Nat) : Int) := by simp [IntKind.wrap, IntKind.signed, IntKind.bits]
theorem wrap_u64 (u : Nat) : IntKind.u64.wrap (u : Int) = ((u % 18446744073709551616 : Nat) : Int) := by simp [IntKind.wrap, IntKind.signed, IntKind.bits]
theorem ofInt_nat (n a : Nat) : (BitVec.ofInt n (a : Int)).toNat = a % 2 ^ n := by simp
theorem and_nat8 {a b : Nat} (ha : a < 256) (hb : b < 256) : bitV .and .u8 (a : Int) (b : Int) = ((a &&& b : Nat) : Int) := by
  have h : a &&& b < 2 ^ 8 := Nat.and_lt_two_pow a hb
  show IntKind.u8.wrap ((BitVec.ofInt 8 (a : Int) &&& BitVec.ofInt 8 (b : Int)).toNat : Int) = _
  rw [BitVec.toNat_and, ofInt_nat, ofInt_nat]
  rw [Nat.mod_eq_of_lt (show a < 2 ^ 8 from ha), Nat.mod_eq_of_lt (show b < 2 ^ 8 from hb), wrap_u8, Nat.mod_eq_of_lt h]
theorem or_nat64 {a b : Nat} (ha : a < 2 ^ 64) (hb : b < 2 ^ 64) : bitV .or .u64 (a : Int) (b : Int) = ((a ||| b : Nat) : Int) := by
  have h : a ||| b < 2 ^ 64 := Nat.or_lt_two_pow ha hb
  show IntKind.u64.wrap ((BitVec.ofInt 64 (a : Int) ||| BitVec.ofInt 64 (b : Int)).toNat : Int) = _
  rw [BitVec.toNat_or, ofInt_nat, ofInt_nat]
  rw [Nat.mod_eq_of_lt ha, Nat.mod_eq_of_lt hb, wrap_u64, Nat.mod_eq_of_lt h]
theorem and_nat64 {a b : Nat} (ha : a < 2 ^ 64) (hb : b < 2 ^ 64) : bitV .and .u64 (a : Int) (b : Int) = ((a &&& b : Nat) : Int) := by
  have h : a &&& b < 2 ^ 64 := Nat.and_lt_two_pow a hb
  show IntKind.u64.wrap ((BitVec.ofInt 64 (a : Int) &&& BitVec.ofInt 64 (b : Int)).toNat : Int) = _
  rw [BitVec.toNat_and, ofInt_nat, ofInt_nat]
  rw [Nat.mod_eq_of_lt ha, Nat.mod_eq_of_lt hb, wrap_u64, Nat.mod_eq_of_lt h]

theorem and_127 (c : UInt8) : bitV .and .u8 (c.toNat : Int) 127 = ((c.toNat % 128 : Nat) : Int) := by
  rw [show ((127 : Int)) = ((127 : Nat) : Int) from rfl, and_nat8 c.toNat_lt (by decide)]
  congr 1
  exact Nat.and_two_pow_sub_one_eq_mod c.toNat 7
theorem shr1 (u : Nat) : ((u : Int)).fdiv (2 ^ min (1 : Int).toNat IntKind.u64.bits) = ((u / 2 : Nat) : Int) := by
  rw [Int.fdiv_eq_ediv_of_nonneg _ (by decide)]
  rfl
theorem shl_k (a k : Nat) (h : a * 2 ^ k < 2 ^ 64) (hk : k ≤ 63) : IntKind.u64.wrap ((a : Int) * 2 ^ min ((k : Nat) : Int).toNat IntKind.u64.bits) = ((a * 2 ^ k : Nat) : Int) := by
  have e : min ((k : Nat) : Int).toNat IntKind.u64.bits = k := by simp only [Int.toNat_natCast]; show min k 64 = k; omega
  rw [e, show (a : Int) * 2 ^ k = ((a * 2 ^ k : Nat) : Int) by push_cast; rfl, wrap_u64, Nat.mod_eq_of_lt h]
theorem or_add {v a k : Nat} (hv : v < 2 ^ k) (h : a * 2 ^ k < 2 ^ 64) (hk : k ≤ 63) : bitV .or .u64 (v : Int) ((a * 2 ^ k : Nat) : Int) = ((v + a * 2 ^ k : Nat) : Int) := by
  have hv' : v < 2 ^ 64 := Nat.lt_of_lt_of_le hv (Nat.pow_le_pow_right (by decide) (by omega))
  rw [or_nat64 hv' h, Nat.or_comm, Nat.mul_comm a, ← Nat.two_pow_add_eq_or_of_lt hv]
  congr 1
  omega
theorem and_1 {v : Nat} (hv : v < 2 ^ 64) : bitV .and .u64 (v : Int) 1 = ((v % 2 : Nat) : Int) := by
  rw [show ((1 : Int)) = ((1 : Nat) : Int) from rfl, and_nat64 hv (by decide)]
  congr 1
  exact Nat.and_two_pow_sub_one_eq_mod v 1
theorem cpl {x : Int} (h : InI x) : bitV .xor .i64 (if IntKind.i64.signed then -1 else IntKind.i64.max) x = -x - 1 := by
  obtain ⟨h1, h2⟩ := h
  have e : (BitVec.ofInt 64 (-1) ^^^ BitVec.ofInt 64 x) = BitVec.ofInt 64 (-x - 1) := by
    have a : BitVec.ofInt 64 (-1) = BitVec.allOnes 64 := by decide
    rw [a, BitVec.allOnes_xor]
    have : BitVec.ofInt 64 (-x - 1) = ~~~ BitVec.ofInt 64 x := by
      apply BitVec.eq_of_toInt_eq
      rw [BitVec.toInt_not, BitVec.toInt_ofInt]
      have t : (BitVec.ofInt 64 x).toNat = (x % 2 ^ 64).toNat := by simp [BitVec.toNat_ofInt]
      rw [t]
      simp only [Int.bmod]
      omega
    rw [this]
  show IntKind.i64.wrap _ = _
  have : ∀ y : Int, InI y → IntKind.i64.wrap ((BitVec.ofInt 64 y).toNat : Int) = y := by
    intro y hy
    obtain ⟨h3, h4⟩ := hy
    have t : (BitVec.ofInt 64 y).toNat = (y % 2 ^ 64).toNat := by simp [BitVec.toNat_ofInt]
    rw [t]
    simp only [IntKind.wrap, IntKind.signed, IntKind.bits]
    simp
    omega
  rw [← this (-x - 1) ⟨by omega, by omega⟩, ← e]
  rfl
theorem i64_of_nat {v : Nat} (h : v < 9223372036854775808) : IntKind.i64.wrap (v : Int) = (v : Int) := wrap_i64_in ⟨by omega, by omega⟩

/-! ### Numbers as bytes -/
def zag (v : Nat) : Int := if v % 2 = 1 then -((v / 2 : Nat) : Int) - 1 else ((v / 2 : Nat) : Int)
theorem zag_in {v : Nat} (h : v < 2 ^ 64) : InI (zag v) := by
  unfold zag
  split <;> constructor <;> omega

/-- The number with which bytes begin (from its place i on, v so far): it, how many bytes it takes, and what is wrong. -/
def numD (i v : Nat) : List UInt8 → Nat × Nat × Nat
  | [] => (0, 0, 20)
  | c :: r =>
    if i = 9 ∧ 1 < c.toNat then (0, 0, 21)
    else if 128 ≤ c.toNat then numD (i + 1) (v + c.toNat % 128 * 2 ^ (7 * i)) r
    else if c.toNat = 0 ∧ 0 < i then (0, 0, 21)
    else (v + c.toNat % 128 * 2 ^ (7 * i), i + 1, 0)
end Go.YtmpoffijcfaalaaGreat

/- What a reader reads, as plain functions; events. No program. -/

namespace Go.YtmpoffijcfaalaaGreat
open Go.Eng

/-- Where a reader stands, and its first fault. -/
structure Rd where
  pos : Nat
  fault : Nat

/-- The next thing: how many bytes it takes, and what is wrong. -/
def Rd.step (s : Rd) (n e : Nat) : Rd := if s.fault ≠ 0 then s else if e ≠ 0 then { s with fault := e } else { s with pos := s.pos + n }
/-- What the next thing reads as: its default where there is none. -/
def Rd.val {α : Type} (s : Rd) (d x : α) (e : Nat) : α := if s.fault ≠ 0 then d else if e ≠ 0 then d else x

def countD (bs : List UInt8) (most : Int) : Nat × Nat × Nat :=
  let (v, n, e) := numD 0 0 bs
  if e = 0 ∧ max most 0 < (v : Int) then (0, 0, 22) else if e ≠ 0 then (0, 0, e) else (v, n, 0)
def textD (bs : List UInt8) (most : Int) : List UInt8 × Nat × Nat :=
  let (v, n, e) := countD bs most
  if e ≠ 0 then ([], 0, e) else if bs.length < n + v then ([], 0, 20) else ((bs.drop n).take v, n + v, 0)
def byteD : List UInt8 → UInt8 × Nat × Nat
  | [] => (0, 0, 20)
  | c :: _ => (c, 1, 0)

/-- A reading. -/
abbrev Rdg (α : Type) := Rd → α × Rd
def rdOf {α : Type} (bs : List UInt8) (d : α) (f : List UInt8 → α × Nat × Nat) : Rdg α := fun s =>
  let (x, n, e) := f (bs.drop s.pos)
  (s.val d x e, s.step n e)
def rdNum (bs : List UInt8) : Rdg Nat := rdOf bs 0 (numD 0 0)
def rdInt (bs : List UInt8) : Rdg Int := fun s => (zag (rdNum bs s).1, (rdNum bs s).2)
def rdByte (bs : List UInt8) : Rdg UInt8 := rdOf bs 0 byteD
def rdCount (bs : List UInt8) (most : Int) : Rdg Nat := rdOf bs 0 (fun l => countD l most)
def rdText (bs : List UInt8) (most : Int) : Rdg (List UInt8) := rdOf bs [] (fun l => textD l most)

structure OpV where
  kind : Int
  key : ByteArray
  other : ByteArray
  n : Int
  lo : Int
  hi : Int
  deriving DecidableEq
structure Ev where
  kind : Int
  client : Int
  node : Int
  other : Int
  n : Int
  op : OpV
  keep : List Int

def OpV.none : OpV := ⟨0, ByteArray.empty, ByteArray.empty, 0, 0, 0⟩
def known (n : Int) : Bool := n = 1 || n = 3 || n = 5
def keeps (k : Int) : Bool := k = 9 || k = 10

/-! ### Writing -/
/-! ### Reading -/
/-! ### For the walks -/
@[reducible] def numTup (p : Nat × Nat × Nat) : Value := .tuple #[.int .u64 (p.1 : Int), .int .i64 (p.2.1 : Int), .int .i64 (p.2.2 : Int)]
@[reducible] def intTup (p : Nat × Nat × Nat) : Value := .tuple #[.int .i64 (p.1 : Int), .int .i64 (p.2.1 : Int), .int .i64 (p.2.2 : Int)]
theorem wrap_u64' {u : Nat} (h : u < 2 ^ 64) : IntKind.u64.wrap (u : Int) = (u : Int) := by rw [wrap_u64, Nat.mod_eq_of_lt h]
theorem shl_ok {i c : Nat} (hi : i ≤ 9) (hc : i = 9 → c ≤ 1) : c % 128 * 2 ^ (7 * i) < 2 ^ 64 := by
  have h : i = 0 ∨ i = 1 ∨ i = 2 ∨ i = 3 ∨ i = 4 ∨ i = 5 ∨ i = 6 ∨ i = 7 ∨ i = 8 ∨ i = 9 := by omega
  rcases h with rfl | rfl | rfl | rfl | rfl | rfl | rfl | rfl | rfl | rfl <;> simp only [Nat.reduceMul, Nat.reducePow] <;> omega
theorem shl_lt {i c v : Nat} (hv : v < 2 ^ (7 * i)) : v + c % 128 * 2 ^ (7 * i) < 2 ^ (7 * (i + 1)) := by
  have h : c % 128 < 128 := Nat.mod_lt _ (by decide)
  have e : 2 ^ (7 * (i + 1)) = 128 * 2 ^ (7 * i) := by rw [Nat.mul_add, Nat.pow_add, Nat.mul_comm]
  rw [e]
  have : c % 128 * 2 ^ (7 * i) ≤ 127 * 2 ^ (7 * i) := Nat.mul_le_mul_right _ (by omega)
  omega
theorem drop_at {α : Type} {bs : List α} {i : Nat} {c : α} (h : bs[i]? = some c) : bs.drop i = c :: bs.drop (i + 1) := by
  obtain ⟨hi, rfl⟩ := List.getElem?_eq_some_iff.1 h
  exact List.drop_eq_getElem_cons hi
end Go.YtmpoffijcfaalaaGreat

/- Laws of what is written and read. No program. -/

namespace Go.YtmpoffijcfaalaaGreat
open Go.Eng

theorem pow7_le {i : Nat} (h : i ≤ 9) : 2 ^ (7 * i) ≤ 2 ^ 63 := Nat.pow_le_pow_right (by decide) (by omega)
theorem numD_bd : ∀ (bs : List UInt8) (i v : Nat), i ≤ 9 → v < 2 ^ (7 * i) → (numD i v bs).1 < 2 ^ 64 ∧ (numD i v bs).2.1 ≤ i + bs.length ∧ ((numD i v bs).2.2 ≠ 0 → (numD i v bs).1 = 0 ∧ (numD i v bs).2.1 = 0)
  | [], i, v, _, _ => by simp [numD]
  | c :: r, i, v, hi, hv => by
    have hc := c.toNat_lt
    simp only [numD]
    split
    · exact ⟨by decide, Nat.zero_le _, fun _ => ⟨rfl, rfl⟩⟩
    · rename_i h1
      split
      · have hi' : i + 1 ≤ 9 := by omega
        have h := numD_bd r (i + 1) (v + c.toNat % 128 * 2 ^ (7 * i)) hi' (shl_lt hv)
        refine ⟨h.1, ?_, h.2.2⟩
        have := h.2.1
        simp only [List.length_cons]
        omega
      · split
        · exact ⟨by decide, Nat.zero_le _, fun _ => ⟨rfl, rfl⟩⟩
        · refine ⟨?_, by simp only [List.length_cons]; omega, fun h => absurd rfl h⟩
          show v + c.toNat % 128 * 2 ^ (7 * i) < 2 ^ 64
          by_cases h9 : i = 9
          · subst h9
            have : c.toNat % 128 ≤ 1 := by omega
            simp only [Nat.reduceMul, Nat.reducePow] at hv ⊢
            omega
          · have h := shl_lt (c := c.toNat) hv
            have := pow7_le (i := i + 1) (by omega)
            omega
theorem countD_of {bs : List UInt8} {most : Int} {v n e : Nat} (h : numD 0 0 bs = (v, n, e)) : countD bs most = if e = 0 ∧ max most 0 < (v : Int) then (0, 0, 22) else if e ≠ 0 then (0, 0, e) else (v, n, 0) := by
  simp only [countD, h]
theorem countD_bd (bs : List UInt8) (most : Int) : ((countD bs most).1 : Int) ≤ max most 0 ∧ (countD bs most).2.1 ≤ bs.length ∧ ((countD bs most).2.2 ≠ 0 → (countD bs most).1 = 0 ∧ (countD bs most).2.1 = 0) := by
  have hb := numD_bd bs 0 0 (by decide) (by decide)
  rcases h : numD 0 0 bs with ⟨v, n, e⟩
  rw [h] at hb
  simp only [Nat.zero_add] at hb
  rw [countD_of h]
  split
  · exact ⟨by show (0 : Int) ≤ _; omega, Nat.zero_le _, fun _ => ⟨rfl, rfl⟩⟩
  · split
    · exact ⟨by show (0 : Int) ≤ _; omega, Nat.zero_le _, fun _ => ⟨rfl, rfl⟩⟩
    · rename_i h1 h2
      have : e = 0 := by omega
      exact ⟨by show (v : Int) ≤ _; omega, hb.2.1, fun h => absurd rfl h⟩
theorem textD_of {bs : List UInt8} {most : Int} {v n e : Nat} (h : countD bs most = (v, n, e)) : textD bs most = if e ≠ 0 then ([], 0, e) else if bs.length < n + v then ([], 0, 20) else ((bs.drop n).take v, n + v, 0) := by
  simp only [textD, h]
theorem textD_bd (bs : List UInt8) (most : Int) : (textD bs most).2.1 ≤ bs.length ∧ ((textD bs most).2.2 ≠ 0 → (textD bs most).1 = [] ∧ (textD bs most).2.1 = 0) ∧ ((textD bs most).1.length : Int) ≤ max most 0 := by
  have hb := countD_bd bs most
  rcases h : countD bs most with ⟨v, n, e⟩
  rw [h] at hb
  rw [textD_of h]
  simp only at hb
  split
  · exact ⟨Nat.zero_le _, fun _ => ⟨rfl, rfl⟩, by show (0 : Int) ≤ _; omega⟩
  · split
    · exact ⟨Nat.zero_le _, fun _ => ⟨rfl, rfl⟩, by show (0 : Int) ≤ _; omega⟩
    · exact ⟨by show n + v ≤ _; omega, fun h => absurd rfl h, by simp only [List.length_take, List.length_drop]; omega⟩
theorem wrap_u64_int {x : Int} (h0 : 0 ≤ x) (h1 : x < 18446744073709551616) : IntKind.u64.wrap x = x := by
  have := wrap_u64' (u := x.toNat) (by omega)
  rwa [Int.toNat_of_nonneg h0] at this
theorem max_in {x : Int} (h : InI x) : 0 ≤ max x 0 ∧ max x 0 < 9223372036854775808 := by
  obtain ⟨h1, h2⟩ := h
  omega
theorem step_pos {bs : List UInt8} {s : Rd} {n e : Nat} (hp : s.pos ≤ bs.length) (hn : n ≤ (bs.drop s.pos).length) : (s.step n e).pos ≤ bs.length := by
  rw [List.length_drop] at hn
  unfold Rd.step
  split
  · exact hp
  · split
    · exact hp
    · show s.pos + n ≤ _; omega
theorem rdOf_pos {α : Type} {bs : List UInt8} {d : α} {f : List UInt8 → α × Nat × Nat} {s : Rd} (hp : s.pos ≤ bs.length) (hf : ∀ l, (f l).2.1 ≤ l.length) : (rdOf bs d f s).2.pos ≤ bs.length := by
  rcases h : f (bs.drop s.pos) with ⟨x, n, e⟩
  have := hf (bs.drop s.pos)
  rw [h] at this
  simp only [rdOf, h]
  exact step_pos hp this
theorem rdNum_pos {bs : List UInt8} {s : Rd} (hp : s.pos ≤ bs.length) : (rdNum bs s).2.pos ≤ bs.length := rdOf_pos hp fun l => by have := (numD_bd l 0 0 (by decide) (by decide)).2.1; omega
theorem rdInt_pos {bs : List UInt8} {s : Rd} (hp : s.pos ≤ bs.length) : (rdInt bs s).2.pos ≤ bs.length := rdNum_pos hp
theorem rdCount_pos {bs : List UInt8} {most : Int} {s : Rd} (hp : s.pos ≤ bs.length) : (rdCount bs most s).2.pos ≤ bs.length := rdOf_pos hp fun l => (countD_bd l most).2.1
theorem rdText_pos {bs : List UInt8} {most : Int} {s : Rd} (hp : s.pos ≤ bs.length) : (rdText bs most s).2.pos ≤ bs.length := rdOf_pos hp fun l => (textD_bd l most).1
theorem rdNum_lt (bs : List UInt8) (s : Rd) : (rdNum bs s).1 < 2 ^ 64 := by
  have := (numD_bd (bs.drop s.pos) 0 0 (by decide) (by decide)).1
  simp only [rdNum, rdOf, Rd.val]
  split
  · decide
  · split
    · decide
    · exact this
theorem rdInt_in (bs : List UInt8) (s : Rd) : InI (rdInt bs s).1 := zag_in (rdNum_lt bs s)
/-- A reader, as a thing of one's own: its bytes' value, where it stands. -/
@[reducible] def rdr (p : Nat) (bv : Value) (s : Rd) : OwnE := bl p 346 [bv, .int .i64 (s.pos : Int), .int .i64 (s.fault : Int)]
@[reducible] def stepTup (n e : Nat) : Value := .tuple #[.int .i64 (n : Int), .int .i64 (e : Int)]
end Go.YtmpoffijcfaalaaGreat

/- The pens' own data: raw pointers, a pen that reads, and what is read into cells. No program. -/

namespace Go.YtmpoffijcfaalaaGreat
open Go.Eng

/-- A cell that is told as it is. -/
structure RawP where
  v : Value
instance repRaw : Rep RawP where
  size := 1
  agg := false
  rd S w cs x := cs = [x.v] ∧ x.v.oneCell' = true
  len := by rintro S w cs x ⟨rfl, _⟩; rfl
  one := by
    rintro S w cs x ⟨rfl, h⟩ u hu
    simp only [List.mem_cons, List.not_mem_nil, or_false] at hu
    subst hu
    exact h
  keep := by
    rintro S S' w w' cs x h _ _
    exact h
@[reducible] instance cellRaw : CellR repRaw := ⟨fun x => x.v, fun x => x.v.oneCell' = true, fun h => h⟩
/-- A pen that reads by the reader in block r. -/
structure Tpen where
  r : Nat
@[reducible] def Tpen.fIn (x : Tpen) : RawP := ⟨.pointer (some ⟨x.r, 0, none⟩)⟩
@[reducible] def Tpen.fBad (_ : Tpen) : Int := 0
@[reducible] def spen : Shape Tpen where
  H := Unit
  size := 4
  cells x _ := [.pointer (some ⟨x.r, 0, none⟩), .slice none 0 0, .bool false, .int .i64 0]
  sub _ _ := []
  wf _ := True
  len _ _ := rfl
  one := by
    intro S w x h ht u hu
    simp only [List.mem_cons, List.not_mem_nil, or_false] at hu
    rcases hu with rfl | rfl | rfl | rfl <;> rfl
@[reducible] instance rpen : Rep Tpen := Rep.ofShape spen
theorem ppen_0 {x : Tpen} : ∀ (S : Nat → Prop) (w : World) (cs : List Value), rpen.rd S w cs x → repRaw.rd S w ((cs.drop 0).take 1) x.fIn := by
  rintro S w cs ⟨h, rfl, hs, hw⟩
  exact ⟨rfl, rfl⟩
theorem ppen_3 {x : Tpen} : ∀ (S : Nat → Prop) (w : World) (cs : List Value), rpen.rd S w cs x → repInt.rd S w ((cs.drop 3).take 1) x.fBad := by
  rintro S w cs ⟨h, rfl, hs, hw⟩
  exact ⟨rfl, (by decide : (-9223372036854775808 : Int) ≤ 0), (by decide : (0 : Int) ≤ 9223372036854775807)⟩

/-- Is nothing more read? -/
def stopB (s : Rd) : Bool := !decide ((s.fault : Int) = 0) || !decide ((0 : Int) = 0)
theorem stopB_iff (s : Rd) : stopB s = true ↔ s.fault ≠ 0 := by
  unfold stopB
  simp
theorem stopB_not (s : Rd) : stopB s = false ↔ s.fault = 0 := by
  rw [← Bool.not_eq_true, stopB_iff]
  simp
def flagD : List UInt8 → Bool × Nat × Nat
  | [] => (false, 0, 20)
  | c :: _ => if 1 < c.toNat then (false, 0, 21) else (decide (c = 1), 1, 0)
def rdFlag (bs : List UInt8) : Rdg Bool := rdOf bs false flagD
theorem step_stop {s : Rd} (h : s.fault ≠ 0) (n e : Nat) : s.step n e = s := by unfold Rd.step; rw [if_pos h]
theorem rdOf_stop {α : Type} {bs : List UInt8} {d : α} {f : List UInt8 → α × Nat × Nat} {s : Rd} (h : s.fault ≠ 0) : (rdOf bs d f s).2 = s := by
  rcases hN : f (bs.drop s.pos) with ⟨x, n, e⟩
  simp only [rdOf, hN, step_stop h]
theorem rdInt_stop {bs : List UInt8} {s : Rd} (h : s.fault ≠ 0) : (rdInt bs s).2 = s := rdOf_stop (d := 0) (f := numD 0 0) h
theorem rdText_stop {bs : List UInt8} {m : Int} {s : Rd} (h : s.fault ≠ 0) : (rdText bs m s).2 = s := rdOf_stop (d := []) (f := fun l => textD l m) h
theorem rdFlag_stop {bs : List UInt8} {s : Rd} (h : s.fault ≠ 0) : (rdFlag bs s).2 = s := rdOf_stop (d := false) (f := flagD) h
theorem flagD_bd (bs : List UInt8) : (flagD bs).2.1 ≤ bs.length ∧ ((flagD bs).2.2 ≠ 0 → (flagD bs).1 = false ∧ (flagD bs).2.1 = 0) := by
  cases bs with
  | nil => simp [flagD]
  | cons c r =>
    simp only [flagD]
    by_cases h : 1 < c.toNat
    · rw [if_pos h]; simp
    · rw [if_neg h]; simp
theorem rdFlag_pos {bs : List UInt8} {s : Rd} (hp : s.pos ≤ bs.length) : (rdFlag bs s).2.pos ≤ bs.length := rdOf_pos hp fun l => (flagD_bd l).1

/-- What is told of the whole. -/
def endE (bs : List UInt8) (s : Rd) : Int := if s.fault = 0 ∧ s.pos < bs.length then 24 else (s.fault : Int)
/-- Ints read into places. -/
def intsP (bs : List UInt8) : List Nat → List Value × Rd → List Value × Rd
  | [], p => p
  | o :: r, p => intsP bs r (p.1.set o (.int .i64 (rdInt bs p.2).1), (rdInt bs p.2).2)
def textsP (bs : List UInt8) : List Nat → List Value × Rd → List Value × Rd
  | [], p => p
  | o :: r, p => textsP bs r (p.1.set o (.string ⟨(rdText bs 65535 p.2).1.toArray⟩), (rdText bs 65535 p.2).2)
def zeroI (cells : List Value) (offs : List Nat) : Prop := ∀ o ∈ offs, cells[o]? = some (.int .i64 0)
def zeroS (cells : List Value) (offs : List Nat) : Prop := ∀ o ∈ offs, cells[o]? = some (.string ByteArray.empty)
def ptrs (b : Nat) (offs : List Nat) : List RawP := offs.map fun o => ⟨.pointer (some ⟨b, o, none⟩)⟩
theorem ptrs_len {b : Nat} {offs : List Nat} : (ptrs b offs).length = offs.length := List.length_map _
theorem ptrs_at {b : Nat} {offs : List Nat} {i : Nat} (h : i < offs.length) : (ptrs b offs)[i]? = some ⟨.pointer (some ⟨b, offs.getD i 0, none⟩)⟩ := by
  simp [ptrs, List.getD, List.getElem?_eq_getElem h]
theorem intsP_pos {bs : List UInt8} : ∀ {offs : List Nat} {p : List Value × Rd}, p.2.pos ≤ bs.length → (intsP bs offs p).2.pos ≤ bs.length
  | [], _, h => h
  | o :: r, p, h => intsP_pos (offs := r) (rdInt_pos h)
theorem textsP_pos {bs : List UInt8} : ∀ {offs : List Nat} {p : List Value × Rd}, p.2.pos ≤ bs.length → (textsP bs offs p).2.pos ≤ bs.length
  | [], _, h => h
  | o :: r, p, h => textsP_pos (offs := r) (rdText_pos h)
theorem set_same {cells : List Value} {o : Nat} {v : Value} (h : cells[o]? = some v) : cells.set o v = cells := by
  refine List.ext_getElem? fun n => ?_
  rw [List.getElem?_set]
  split
  · rename_i e
    subst e
    have := (List.getElem?_eq_some_iff.1 h).1
    rw [if_pos this, h]
  · rfl
theorem lt_of_at {cells : List Value} {o : Nat} {v : Value} (h : cells[o]? = some v) : o < cells.length := (List.getElem?_eq_some_iff.1 h).1
theorem drop_cons {offs : List Nat} {i : Nat} (h : i < offs.length) : offs.drop i = offs.getD i 0 :: offs.drop (i + 1) := by
  rw [List.drop_eq_getElem_cons h]
  simp [List.getD, List.getElem?_eq_getElem h]
theorem rdInt_stop1 {bs : List UInt8} {s : Rd} (h : s.fault ≠ 0) : (rdInt bs s).1 = 0 := by
  have : (rdNum bs s).1 = 0 := by
    simp only [rdNum, rdOf, Rd.val]
    rw [if_pos h]
  show zag (rdNum bs s).1 = 0
  rw [this]
  rfl
theorem rdText_stop1 {bs : List UInt8} {m : Int} {s : Rd} (h : s.fault ≠ 0) : (rdText bs m s).1 = [] := by
  simp only [rdText, rdOf, Rd.val]
  rw [if_pos h]
theorem rdFlag_stop1 {bs : List UInt8} {s : Rd} (h : s.fault ≠ 0) : (rdFlag bs s).1 = false := by
  simp only [rdFlag, rdOf, Rd.val]
  rw [if_pos h]
theorem intsP_stop {bs : List UInt8} {o : Nat} {r : List Nat} {c : List Value} {s : Rd} (h : s.fault ≠ 0) (hc : c[o]? = some (.int .i64 0)) : intsP bs (o :: r) (c, s) = intsP bs r (c, s) := by
  simp only [intsP, rdInt_stop1 h, rdInt_stop h]
  rw [set_same hc]
theorem zero_set {α : Type} {c : List Value} {o : Nat} {r : List Nat} {u z : Value} (hn : (o :: r).Nodup) (h : ∀ x ∈ r, c[x]? = some z) : ∀ x ∈ r, (c.set o u)[x]? = some z := by
  intro x hx
  rw [List.getElem?_set_ne]
  · exact h x hx
  · rintro rfl
    exact (List.nodup_cons.1 hn).1 hx

/-! ### What is read -/

theorem ptrs_rd {b : Nat} (S : Nat → Prop) (w : World) : ∀ offs : List Nat, Go.Eng.rdL S w (offs.map fun o => [.pointer (some ⟨b, o, none⟩)]) (ptrs b offs)
  | [] => trivial
  | _ :: r => ⟨⟨rfl, rfl⟩, ptrs_rd S w r⟩
def rdMany {α : Type} (rd : Rd → α × Rd) : Nat → Rd → List α × Rd
  | 0, s => ([], s)
  | n + 1, s => if s.fault = 0 then ((rd s).1 :: (rdMany rd n (rd s).2).1, (rdMany rd n (rd s).2).2) else ([], s)
def rdLs {α : Type} (bs : List UInt8) (rd : Rd → α × Rd) (s : Rd) : List α × Rd := rdMany rd (rdCount bs 1024 s).1 (rdCount bs 1024 s).2
def fN (bs : List UInt8) (s : Rd) : Rd := (rdFlag bs s).2
end Go.YtmpoffijcfaalaaGreat

/- What is read of each kind of thing: written by specs3.py. No program. -/

namespace Go.YtmpoffijcfaalaaGreat
open Go.Eng

def bnd {α β : Type} (x : α × Rd) (f : α → Rd → β × Rd) : β × Rd := f x.1 x.2
theorem bnd_pos {α β : Type} {x : α × Rd} {f : α → Rd → β × Rd} {n : Nat} (h : x.2.pos ≤ n) (k : ∀ a s, s.pos ≤ n → (f a s).2.pos ≤ n) : (bnd x f).2.pos ≤ n := k _ _ h
theorem bnd_wf {α β : Type} {x : α × Rd} {f : α → Rd → β × Rd} {q : α → Prop} {p : β → Prop} (h : q x.1) (k : ∀ a s, q a → p (f a s).1) : p (bnd x f).1 := k _ _ h
theorem rdText_size (bs : List UInt8) (s : Rd) : (⟨(rdText bs 65535 s).1.toArray⟩ : ByteArray).size ≤ 9223372036854775807 := by
  show (rdText bs 65535 s).1.toArray.size ≤ _
  rw [List.size_toArray]
  have := (textD_bd (bs.drop s.pos) 65535).2.2
  simp only [rdText, rdOf, Rd.val]
  split
  · exact Nat.zero_le _
  · split
    · exact Nat.zero_le _
    · omega
theorem rdCount_le' (bs : List UInt8) (s : Rd) : (rdCount bs 1024 s).1 ≤ 1024 := by
  have := (countD_bd (bs.drop s.pos) 1024).1
  simp only [rdCount, rdOf, Rd.val]
  split
  · omega
  · split
    · omega
    · omega
theorem rdMany_pos {α : Type} {bs : List UInt8} {rd : Rd → α × Rd} (h : ∀ s, s.pos ≤ bs.length → (rd s).2.pos ≤ bs.length) : ∀ {n : Nat} {s : Rd}, s.pos ≤ bs.length → (rdMany rd n s).2.pos ≤ bs.length
  | 0, _, hs => hs
  | n + 1, s, hs => by
    unfold rdMany
    split
    · exact rdMany_pos h (h _ hs)
    · exact hs
theorem rdLs_pos {α : Type} {bs : List UInt8} {rd : Rd → α × Rd} {s : Rd} (h : ∀ s, s.pos ≤ bs.length → (rd s).2.pos ≤ bs.length) (hs : s.pos ≤ bs.length) : (rdLs bs rd s).2.pos ≤ bs.length := rdMany_pos h (rdCount_pos hs)
theorem rdCount_stop {bs : List UInt8} {m : Int} {s : Rd} (h : s.fault ≠ 0) : rdCount bs m s = (0, s) := by
  have h2 : (rdCount bs m s).2 = s := rdOf_stop (d := 0) (f := fun l => countD l m) h
  have h1 : (rdCount bs m s).1 = 0 := by
    simp only [rdCount, rdOf, Rd.val]
    rw [if_pos h]
  exact Prod.ext h1 h2
theorem rdLs_stop {α : Type} {bs : List UInt8} {rd : Rd → α × Rd} {s : Rd} (h : s.fault ≠ 0) : rdLs bs rd s = ([], s) := by
  unfold rdLs
  rw [rdCount_stop h]
  rfl
theorem rdMany_stop {α : Type} {rd : Rd → α × Rd} {s : Rd} (h : s.fault ≠ 0) (n : Nat) : rdMany rd n s = ([], s) := by
  cases n with
  | zero => rfl
  | succ n => unfold rdMany; rw [if_neg h]
theorem rdMany_go {α : Type} {rd : Rd → α × Rd} {s : Rd} (h : s.fault = 0) (n : Nat) : rdMany rd (n + 1) s = ((rd s).1 :: (rdMany rd n (rd s).2).1, (rdMany rd n (rd s).2).2) := by
  rw [rdMany, if_pos h]
theorem rdMany_step {α : Type} {rd : Rd → α × Rd} {s : Rd} {N i : Nat} {acc : List α} {R : List α × Rd} (hi : i < N) (hf : s.fault = 0) (he : R = (acc ++ (rdMany rd (N - i) s).1, (rdMany rd (N - i) s).2)) : R = ((acc ++ [(rd s).1]) ++ (rdMany rd (N - (i + 1)) (rd s).2).1, (rdMany rd (N - (i + 1)) (rd s).2).2) := by
  rw [he, show N - i = (N - (i + 1)) + 1 by omega, rdMany_go hf]
  simp
theorem set_at {c : List Value} {o : Nat} {v : Value} (h : o < c.length) : (c.set o v)[o]? = some v := by simp [h]
theorem intsP_at {bs : List UInt8} {x : Nat} : ∀ {offs : List Nat} {p : List Value × Rd}, x ∉ offs → (intsP bs offs p).1[x]? = p.1[x]?
  | [], _, _ => rfl
  | o :: r, p, h => by
    rw [intsP, intsP_at (fun hx => h (List.mem_cons_of_mem _ hx))]
    exact List.getElem?_set_ne (fun e => h (by subst e; exact List.mem_cons_self ..))
theorem textsP_at {bs : List UInt8} {x : Nat} : ∀ {offs : List Nat} {p : List Value × Rd}, x ∉ offs → (textsP bs offs p).1[x]? = p.1[x]?
  | [], _, _ => rfl
  | o :: r, p, h => by
    rw [textsP, textsP_at (fun hx => h (List.mem_cons_of_mem _ hx))]
    exact List.getElem?_set_ne (fun e => h (by subst e; exact List.mem_cons_self ..))
def flagP (bs : List UInt8) (o : Nat) (p : List Value × Rd) : List Value × Rd := (p.1.set o (.bool (rdFlag bs p.2).1), (rdFlag bs p.2).2)
def setL {α : Type} (o : Nat) (y : Value) (rd : Rd → α × Rd) (p : List Value × Rd) : List Value × Rd := (p.1.set o y, (rd p.2).2)
def opPr (bs : List UInt8) (o : Nat) (p : List Value × Rd) : List Value × Rd := intsP bs [o + 3, o + 4, o + 5] (textsP bs [o + 1, o + 2] (intsP bs [o] p))
def planPr (bs : List UInt8) (o : Nat) (p : List Value × Rd) : List Value × Rd := intsP bs [o + 5, o + 6] (textsP bs [o + 3, o + 4] (intsP bs [o, o + 1, o + 2] p))
theorem setL_pos {α : Type} {o : Nat} {y : Value} {rd : Rd → α × Rd} {p : List Value × Rd} {n : Nat} (h : (rd p.2).2.pos ≤ n) : (setL o y rd p).2.pos ≤ n := h
theorem flagP_pos {bs : List UInt8} {o : Nat} {p : List Value × Rd} (h : p.2.pos ≤ bs.length) : (flagP bs o p).2.pos ≤ bs.length := rdFlag_pos h
theorem planPr_pos {bs : List UInt8} {o : Nat} {p : List Value × Rd} (h : p.2.pos ≤ bs.length) : (planPr bs o p).2.pos ≤ bs.length := intsP_pos (textsP_pos (intsP_pos h))
def gdSpan (bs : List UInt8) (s : Rd) : TSpan × Rd :=
  bnd (rdInt bs s) fun a0 s1 =>
  bnd (rdInt bs s1) fun a1 s2 =>
  ({ fLo := a0, fHi := a1 }, s2)
theorem gdSpan_pos {bs : List UInt8} {s : Rd} (h : s.pos ≤ bs.length) : (gdSpan bs s).2.pos ≤ bs.length := by
  exact bnd_pos (rdInt_pos h) fun _ _ h => bnd_pos (rdInt_pos h) fun _ _ h => h
theorem gdSpan_wf (bs : List UInt8) (s : Rd) : (gdSpan bs s).1.wf := by
  exact bnd_wf (q := InI) (rdInt_in _ _) fun _ _ h0 => bnd_wf (q := InI) (rdInt_in _ _) fun _ _ h1 => ⟨h0, h1⟩
def gdLock (bs : List UInt8) (s : Rd) : TLock × Rd :=
  bnd (rdInt bs s) fun a0 s1 =>
  bnd (rdInt bs s1) fun a1 s2 =>
  bnd (rdInt bs s2) fun a2 s3 =>
  bnd (rdInt bs s3) fun a3 s4 =>
  ({ fClient := a0, fSeq := a1, fHome := a2, fN := a3 }, s4)
theorem gdLock_pos {bs : List UInt8} {s : Rd} (h : s.pos ≤ bs.length) : (gdLock bs s).2.pos ≤ bs.length := by
  exact bnd_pos (rdInt_pos h) fun _ _ h => bnd_pos (rdInt_pos h) fun _ _ h => bnd_pos (rdInt_pos h) fun _ _ h => bnd_pos (rdInt_pos h) fun _ _ h => h
theorem gdLock_wf (bs : List UInt8) (s : Rd) : (gdLock bs s).1.wf := by
  exact bnd_wf (q := InI) (rdInt_in _ _) fun _ _ h0 => bnd_wf (q := InI) (rdInt_in _ _) fun _ _ h1 => bnd_wf (q := InI) (rdInt_in _ _) fun _ _ h2 => bnd_wf (q := InI) (rdInt_in _ _) fun _ _ h3 => ⟨h0, h1, h2, h3⟩
def gdHolder (bs : List UInt8) (s : Rd) : THolder × Rd :=
  bnd (rdInt bs s) fun a0 s1 =>
  bnd (rdInt bs s1) fun a1 s2 =>
  bnd (rdInt bs s2) fun a2 s3 =>
  bnd (rdInt bs s3) fun a3 s4 =>
  ({ fNode := a0, fLease := a1, fUp := a2, fDown := a3 }, s4)
theorem gdHolder_pos {bs : List UInt8} {s : Rd} (h : s.pos ≤ bs.length) : (gdHolder bs s).2.pos ≤ bs.length := by
  exact bnd_pos (rdInt_pos h) fun _ _ h => bnd_pos (rdInt_pos h) fun _ _ h => bnd_pos (rdInt_pos h) fun _ _ h => bnd_pos (rdInt_pos h) fun _ _ h => h
theorem gdHolder_wf (bs : List UInt8) (s : Rd) : (gdHolder bs s).1.wf := by
  exact bnd_wf (q := InI) (rdInt_in _ _) fun _ _ h0 => bnd_wf (q := InI) (rdInt_in _ _) fun _ _ h1 => bnd_wf (q := InI) (rdInt_in _ _) fun _ _ h2 => bnd_wf (q := InI) (rdInt_in _ _) fun _ _ h3 => ⟨h0, h1, h2, h3⟩
def gdAnswer (bs : List UInt8) (s : Rd) : TAnswer × Rd :=
  bnd (rdInt bs s) fun a0 s1 =>
  bnd (rdInt bs s1) fun a1 s2 =>
  bnd (rdInt bs s2) fun a2 s3 =>
  bnd (rdInt bs s3) fun a3 s4 =>
  ({ fErr := a0, fValue := a1, fLeast := a2, fMost := a3 }, s4)
theorem gdAnswer_pos {bs : List UInt8} {s : Rd} (h : s.pos ≤ bs.length) : (gdAnswer bs s).2.pos ≤ bs.length := by
  exact bnd_pos (rdInt_pos h) fun _ _ h => bnd_pos (rdInt_pos h) fun _ _ h => bnd_pos (rdInt_pos h) fun _ _ h => bnd_pos (rdInt_pos h) fun _ _ h => h
theorem gdAnswer_wf (bs : List UInt8) (s : Rd) : (gdAnswer bs s).1.wf := by
  exact bnd_wf (q := InI) (rdInt_in _ _) fun _ _ h0 => bnd_wf (q := InI) (rdInt_in _ _) fun _ _ h1 => bnd_wf (q := InI) (rdInt_in _ _) fun _ _ h2 => bnd_wf (q := InI) (rdInt_in _ _) fun _ _ h3 => ⟨h0, h1, h2, h3⟩
def gdOp (bs : List UInt8) (s : Rd) : TOp × Rd :=
  bnd (rdInt bs s) fun a0 s1 =>
  bnd (rdText bs 65535 s1) fun a1 s2 =>
  bnd (rdText bs 65535 s2) fun a2 s3 =>
  bnd (rdInt bs s3) fun a3 s4 =>
  bnd (rdInt bs s4) fun a4 s5 =>
  bnd (rdInt bs s5) fun a5 s6 =>
  ({ fKind := a0, fKey := ⟨a1.toArray⟩, fOther := ⟨a2.toArray⟩, fN := a3, fLo := a4, fHi := a5 }, s6)
theorem gdOp_pos {bs : List UInt8} {s : Rd} (h : s.pos ≤ bs.length) : (gdOp bs s).2.pos ≤ bs.length := by
  exact bnd_pos (rdInt_pos h) fun _ _ h => bnd_pos (rdText_pos h) fun _ _ h => bnd_pos (rdText_pos h) fun _ _ h => bnd_pos (rdInt_pos h) fun _ _ h => bnd_pos (rdInt_pos h) fun _ _ h => bnd_pos (rdInt_pos h) fun _ _ h => h
theorem gdOp_wf (bs : List UInt8) (s : Rd) : (gdOp bs s).1.wf := by
  exact bnd_wf (q := InI) (rdInt_in _ _) fun _ _ h0 => bnd_wf (q := (fun l : List UInt8 => (⟨l.toArray⟩ : ByteArray).size ≤ 9223372036854775807)) (rdText_size _ _) fun _ _ h1 => bnd_wf (q := (fun l : List UInt8 => (⟨l.toArray⟩ : ByteArray).size ≤ 9223372036854775807)) (rdText_size _ _) fun _ _ h2 => bnd_wf (q := InI) (rdInt_in _ _) fun _ _ h3 => bnd_wf (q := InI) (rdInt_in _ _) fun _ _ h4 => bnd_wf (q := InI) (rdInt_in _ _) fun _ _ h5 => ⟨h0, h1, h2, h3, h4, h5⟩
def gdPlan (bs : List UInt8) (s : Rd) : TPlan × Rd :=
  bnd (rdInt bs s) fun a0 s1 =>
  bnd (rdInt bs s1) fun a1 s2 =>
  bnd (rdInt bs s2) fun a2 s3 =>
  bnd (rdText bs 65535 s3) fun a3 s4 =>
  bnd (rdText bs 65535 s4) fun a4 s5 =>
  bnd (rdInt bs s5) fun a5 s6 =>
  bnd (rdInt bs s6) fun a6 s7 =>
  ({ fNumber := a0, fFrom := a1, fTo := a2, fLo := ⟨a3.toArray⟩, fHi := ⟨a4.toArray⟩, fClient := a5, fSeq := a6 }, s7)
def gdEnd (bs : List UInt8) (s : Rd) : TEnd × Rd :=
  bnd (rdInt bs s) fun a0 s1 =>
  bnd (rdInt bs s1) fun a1 s2 =>
  ({ fClient := a0, fSeq := a1 }, s2)
theorem gdEnd_pos {bs : List UInt8} {s : Rd} (h : s.pos ≤ bs.length) : (gdEnd bs s).2.pos ≤ bs.length := by
  exact bnd_pos (rdInt_pos h) fun _ _ h => bnd_pos (rdInt_pos h) fun _ _ h => h
theorem gdEnd_wf (bs : List UInt8) (s : Rd) : (gdEnd bs s).1.wf := by
  exact bnd_wf (q := InI) (rdInt_in _ _) fun _ _ h0 => bnd_wf (q := InI) (rdInt_in _ _) fun _ _ h1 => ⟨h0, h1⟩
def gdMark (bs : List UInt8) (s : Rd) : TMark × Rd :=
  bnd (rdInt bs s) fun a0 s1 =>
  bnd (rdInt bs s1) fun a1 s2 =>
  bnd (rdFlag bs s2) fun a2 s3 =>
  bnd (gdAnswer bs s3) fun a3 s4 =>
  ({ fClient := a0, fSeq := a1, fOpen := a2, fAnswer := a3 }, s4)
theorem gdMark_pos {bs : List UInt8} {s : Rd} (h : s.pos ≤ bs.length) : (gdMark bs s).2.pos ≤ bs.length := by
  exact bnd_pos (rdInt_pos h) fun _ _ h => bnd_pos (rdInt_pos h) fun _ _ h => bnd_pos (rdFlag_pos h) fun _ _ h => bnd_pos (gdAnswer_pos h) fun _ _ h => h
theorem gdMark_wf (bs : List UInt8) (s : Rd) : (gdMark bs s).1.wf := by
  exact bnd_wf (q := InI) (rdInt_in _ _) fun _ _ h0 => bnd_wf (q := InI) (rdInt_in _ _) fun _ _ h1 => bnd_wf (q := (fun _ => True)) (trivial) fun _ _ h2 => bnd_wf (q := TAnswer.wf) (gdAnswer_wf _ _) fun _ _ h3 => ⟨h0, h1, h2, h3⟩
def gdDeal (bs : List UInt8) (s : Rd) : TDeal × Rd :=
  bnd (rdInt bs s) fun a0 s1 =>
  bnd (rdInt bs s1) fun a1 s2 =>
  bnd (rdText bs 65535 s2) fun a2 s3 =>
  bnd (rdText bs 65535 s3) fun a3 s4 =>
  bnd (rdInt bs s4) fun a4 s5 =>
  bnd (rdInt bs s5) fun a5 s6 =>
  bnd (rdInt bs s6) fun a6 s7 =>
  bnd (rdInt bs s7) fun a7 s8 =>
  ({ fClient := a0, fSeq := a1, fKey := ⟨a2.toArray⟩, fOther := ⟨a3.toArray⟩, fN := a4, fMine := a5, fTheirs := a6, fFate := a7 }, s8)
theorem gdDeal_pos {bs : List UInt8} {s : Rd} (h : s.pos ≤ bs.length) : (gdDeal bs s).2.pos ≤ bs.length := by
  exact bnd_pos (rdInt_pos h) fun _ _ h => bnd_pos (rdInt_pos h) fun _ _ h => bnd_pos (rdText_pos h) fun _ _ h => bnd_pos (rdText_pos h) fun _ _ h => bnd_pos (rdInt_pos h) fun _ _ h => bnd_pos (rdInt_pos h) fun _ _ h => bnd_pos (rdInt_pos h) fun _ _ h => bnd_pos (rdInt_pos h) fun _ _ h => h
theorem gdDeal_wf (bs : List UInt8) (s : Rd) : (gdDeal bs s).1.wf := by
  exact bnd_wf (q := InI) (rdInt_in _ _) fun _ _ h0 => bnd_wf (q := InI) (rdInt_in _ _) fun _ _ h1 => bnd_wf (q := (fun l : List UInt8 => (⟨l.toArray⟩ : ByteArray).size ≤ 9223372036854775807)) (rdText_size _ _) fun _ _ h2 => bnd_wf (q := (fun l : List UInt8 => (⟨l.toArray⟩ : ByteArray).size ≤ 9223372036854775807)) (rdText_size _ _) fun _ _ h3 => bnd_wf (q := InI) (rdInt_in _ _) fun _ _ h4 => bnd_wf (q := InI) (rdInt_in _ _) fun _ _ h5 => bnd_wf (q := InI) (rdInt_in _ _) fun _ _ h6 => bnd_wf (q := InI) (rdInt_in _ _) fun _ _ h7 => ⟨h0, h1, h2, h3, h4, h5, h6, h7⟩
def gdWait (bs : List UInt8) (s : Rd) : TWait × Rd :=
  bnd (rdInt bs s) fun a0 s1 =>
  bnd (rdInt bs s1) fun a1 s2 =>
  bnd (rdInt bs s2) fun a2 s3 =>
  bnd (rdInt bs s3) fun a3 s4 =>
  bnd (rdInt bs s4) fun a4 s5 =>
  bnd (gdOp bs s5) fun a5 s6 =>
  ({ fKind := a0, fClient := a1, fSeq := a2, fNode := a3, fHome := a4, fOp := a5 }, s6)
theorem gdWait_pos {bs : List UInt8} {s : Rd} (h : s.pos ≤ bs.length) : (gdWait bs s).2.pos ≤ bs.length := by
  exact bnd_pos (rdInt_pos h) fun _ _ h => bnd_pos (rdInt_pos h) fun _ _ h => bnd_pos (rdInt_pos h) fun _ _ h => bnd_pos (rdInt_pos h) fun _ _ h => bnd_pos (rdInt_pos h) fun _ _ h => bnd_pos (gdOp_pos h) fun _ _ h => h
theorem gdWait_wf (bs : List UInt8) (s : Rd) : (gdWait bs s).1.wf := by
  exact bnd_wf (q := InI) (rdInt_in _ _) fun _ _ h0 => bnd_wf (q := InI) (rdInt_in _ _) fun _ _ h1 => bnd_wf (q := InI) (rdInt_in _ _) fun _ _ h2 => bnd_wf (q := InI) (rdInt_in _ _) fun _ _ h3 => bnd_wf (q := InI) (rdInt_in _ _) fun _ _ h4 => bnd_wf (q := TOp.wf) (gdOp_wf _ _) fun _ _ h5 => ⟨h0, h1, h2, h3, h4, h5⟩
def gdAccount (bs : List UInt8) (s : Rd) : TAccount × Rd :=
  bnd (rdText bs 65535 s) fun a0 s1 =>
  bnd (gdSpan bs s1) fun a1 s2 =>
  bnd (rdInt bs s2) fun a2 s3 =>
  bnd (rdInt bs s3) fun a3 s4 =>
  bnd (rdLs bs (gdHolder bs) s4) fun a4 s5 =>
  bnd (gdLock bs s5) fun a5 s6 =>
  ({ fKey := ⟨a0.toArray⟩, fSpan := a1, fBase := a2, fRound := a3, fHolders := a4, fLock := a5 }, s6)
theorem gdAccount_pos {bs : List UInt8} {s : Rd} (h : s.pos ≤ bs.length) : (gdAccount bs s).2.pos ≤ bs.length := by
  exact bnd_pos (rdText_pos h) fun _ _ h => bnd_pos (gdSpan_pos h) fun _ _ h => bnd_pos (rdInt_pos h) fun _ _ h => bnd_pos (rdInt_pos h) fun _ _ h => bnd_pos (rdLs_pos (fun _ hh => gdHolder_pos hh) h) fun _ _ h => bnd_pos (gdLock_pos h) fun _ _ h => h
theorem gdAccount_wf (bs : List UInt8) (s : Rd) : (gdAccount bs s).1.wf := by
  exact bnd_wf (q := (fun l : List UInt8 => (⟨l.toArray⟩ : ByteArray).size ≤ 9223372036854775807)) (rdText_size _ _) fun _ _ h0 => bnd_wf (q := TSpan.wf) (gdSpan_wf _ _) fun _ _ h1 => bnd_wf (q := InI) (rdInt_in _ _) fun _ _ h2 => bnd_wf (q := InI) (rdInt_in _ _) fun _ _ h3 => bnd_wf (q := (fun _ => True)) (trivial) fun _ _ h4 => bnd_wf (q := TLock.wf) (gdLock_wf _ _) fun _ _ h5 => ⟨h0, h1, h2, h3, h4, h5⟩
def gdState (bs : List UInt8) (s : Rd) : TState × Rd :=
  bnd (rdInt bs s) fun a0 s1 =>
  bnd (rdInt bs s1) fun a1 s2 =>
  bnd (rdFlag bs s2) fun a2 s3 =>
  bnd (rdText bs 65535 s3) fun a3 s4 =>
  bnd (rdText bs 65535 s4) fun a4 s5 =>
  bnd (rdInt bs s5) fun a5 s6 =>
  bnd (rdLs bs (gdAccount bs) s6) fun a6 s7 =>
  bnd (rdLs bs (gdMark bs) s7) fun a7 s8 =>
  bnd (rdLs bs (gdWait bs) s8) fun a8 s9 =>
  bnd (rdLs bs (gdDeal bs) s9) fun a9 s10 =>
  bnd (rdLs bs (gdEnd bs) s10) fun a10 s11 =>
  bnd (gdPlan bs s11) fun a11 s12 =>
  bnd (gdPlan bs s12) fun a12 s13 =>
  bnd (rdText bs 65535 s13) fun a13 s14 =>
  bnd (rdInt bs s14) fun a14 s15 =>
  bnd (rdInt bs s15) fun a15 s16 =>
  bnd (rdInt bs s16) fun a16 s17 =>
  ({ fGroup := a0, fIndex := a1, fOwns := a2, fLo := ⟨a3.toArray⟩, fHi := ⟨a4.toArray⟩, fEpoch := a5, fAccounts := a6, fMarks := a7, fWaits := a8, fDeals := a9, fEnds := a10, fSeal := a11, fOut := a12, fImage := a13, fAbsorbed := a14, fRefused := a15, fUndone := a16 }, s17)
end Go.YtmpoffijcfaalaaGreat

/- What is read out of an image: written by specs3.py. No program. -/

namespace Go.YtmpoffijcfaalaaGreat
open Go.Eng

def zeroState : TState := ({ fGroup := 0, fIndex := 0, fOwns := false, fLo := ByteArray.empty, fHi := ByteArray.empty, fEpoch := 0, fAccounts := [], fMarks := [], fWaits := [], fDeals := [], fEnds := [], fSeal := ({ fNumber := 0, fFrom := 0, fTo := 0, fLo := ByteArray.empty, fHi := ByteArray.empty, fClient := 0, fSeq := 0 } : TPlan), fOut := ({ fNumber := 0, fFrom := 0, fTo := 0, fLo := ByteArray.empty, fHi := ByteArray.empty, fClient := 0, fSeq := 0 } : TPlan), fImage := [], fAbsorbed := 0, fRefused := 0, fUndone := 0 } : TState)
theorem zeroState_wf : zeroState.wf := ⟨⟨by decide, by decide⟩, ⟨by decide, by decide⟩, trivial, (by decide), (by decide), ⟨by decide, by decide⟩, trivial, trivial, trivial, trivial, trivial, ⟨⟨by decide, by decide⟩, ⟨by decide, by decide⟩, ⟨by decide, by decide⟩, (by decide), (by decide), ⟨by decide, by decide⟩, ⟨by decide, by decide⟩⟩, ⟨⟨by decide, by decide⟩, ⟨by decide, by decide⟩, ⟨by decide, by decide⟩, (by decide), (by decide), ⟨by decide, by decide⟩, ⟨by decide, by decide⟩⟩, trivial, ⟨by decide, by decide⟩, ⟨by decide, by decide⟩, ⟨by decide, by decide⟩⟩
def stO (b : List UInt8) : TState := if 65536 < b.length then zeroState else (gdState b ⟨0, 0⟩).1
def errO (b : List UInt8) : Int := if 65536 < b.length then 22 else endE b (gdState b ⟨0, 0⟩).2
/-- What is read out of an image. -/
def rdState (b : List UInt8) : TState × Int := if errO b ≠ 0 then (zeroState, errO b) else (stO b, 0)
theorem stO_long {b : List UInt8} (h : 65536 < b.length) : stO b = zeroState := if_pos h
theorem stO_read {b : List UInt8} (h : ¬ 65536 < b.length) : stO b = (gdState b ⟨0, 0⟩).1 := if_neg h
theorem errO_long {b : List UInt8} (h : 65536 < b.length) : errO b = 22 := if_pos h
theorem errO_read {b : List UInt8} (h : ¬ 65536 < b.length) : errO b = endE b (gdState b ⟨0, 0⟩).2 := if_neg h
theorem rdState_bad {b : List UInt8} (h : errO b ≠ 0) : rdState b = (zeroState, errO b) := if_pos h
theorem rdState_ok {b : List UInt8} (h : errO b = 0) : rdState b = (stO b, 0) := if_neg (not_not_intro h)
end Go.YtmpoffijcfaalaaGreat

/- States that are right. No program. -/

namespace Go.YtmpoffijcfaalaaGreat
open Go.Eng

def sright1 (s : TState) : Bool := !okGroup s.fGroup || !countsP [s.fIndex, s.fEpoch, s.fAbsorbed, s.fRefused, s.fUndone] || !ownedP s || !accsP s
def sright2 (s : TState) : Bool := !decide (errF (marksP s.fMarks) = 0) || !decide (errF (dealsP s.fDeals) = 0) || !decide (errF (endsP s.fEnds) = 0) || decide ((s.fWaits.length : Int) > 8)
def sright3 (s : TState) : Bool := (!decide (s.fSeal = ⟨0, 0, 0, ByteArray.empty, ByteArray.empty, 0, 0⟩)) && (!plannedP s.fSeal || !decide (s.fSeal.fFrom = s.fGroup) || !decide (s.fSeal.fHi = s.fHi) || !ownsP s s.fSeal.fLo)
def sright5 (s : TState) : Bool := plannedP s.fOut && decide (s.fOut.fFrom = s.fGroup) && decide ((rdState s.fImage).2 = 0)
def srightW (s : TState) : Bool := allI s.fWaits.length (fun j => waitP s (s.fWaits.getD j default))
def srightP (s : TState) : Bool := if sright1 s = true then false else if sright2 s = true then false else if srightW s = true then (if sright3 s = true then false else if decide (s.fOut = ⟨0, 0, 0, ByteArray.empty, ByteArray.empty, 0, 0⟩) = true then decide ((s.fImage.length : Int) = 0) else sright5 s) else false
def dright1 (v : TScene) : Bool := ((!decide (v.fNodes = 1)) && (!decide (v.fNodes = 3)) && (!decide (v.fNodes = 5))) || decide (v.fNode < 1) || decide (v.fNode > v.fNodes) || !decide ((v.fStates.length : Int) = 7)
def drightj (v : TScene) (j : Nat) : Bool := (!decide ((v.fStates.getD j default).fGroup = (j : Int) + 1)) || !decide (errF (srightP (v.fStates.getD j default)) = 0)
def drightP (v : TScene) : Bool := if dright1 v = true then false else if allI v.fStates.length (fun j => !drightj v j) = true then decide (errF (planP v.fChart) = 0) && decide (errF (ledgerP v.fRights) = 0) else false
end Go.YtmpoffijcfaalaaGreat

/- Whole numbers of 128 bits. No program. -/

namespace Go.YtmpoffijcfaalaaGreat
open Go.Eng

structure TWide where
  fHi : Int
  fLo : Int
  deriving DecidableEq, Inhabited
@[reducible] def wide (S : Int) : TWide := ⟨S / 18446744073709551616, S % 18446744073709551616⟩
def BW (S : Int) : Prop := -1329227995784915872903807060280344576 ≤ S ∧ S ≤ 1329227995784915872903807060280344576
def BV (S : Int) : Prop := -1298074214633706907132624082305024 ≤ S ∧ S ≤ 1298074214633706907132624082305024
theorem BV.w {S : Int} (h : BV S) : BW S := by unfold BV at h; unfold BW; omega
end Go.YtmpoffijcfaalaaGreat

/- What the references tell, more. No program. -/

namespace Go.YtmpoffijcfaalaaGreat
open Go.Eng

theorem I0 : InI 0 := ⟨by decide, by decide⟩
def accS (f : THolder → Int) (b : Int) (l : List THolder) : Nat → Int
  | 0 => b
  | i + 1 => accS f b l i + f (l.getD i default)
def place1 : TPlace := ⟨1, ByteArray.empty, 1⟩
theorem I1 : InI 1 := ⟨by decide, by decide⟩
theorem place1_wf : place1.wf := ⟨I1, by decide, I1⟩
def chart1 : TChart := ⟨0, [place1], 2, 0, ⟨0, 0, 0, ByteArray.empty, ByteArray.empty, 0, 0⟩, []⟩
theorem zplan_wf : TPlan.wf ⟨0, 0, 0, ByteArray.empty, ByteArray.empty, 0, 0⟩ := ⟨I0, I0, I0, by decide, by decide, I0, I0⟩
theorem chart1_wf : chart1.wf := ⟨I0, trivial, ⟨by decide, by decide⟩, I0, zplan_wf, trivial⟩
def newS (n : Int) : TState := ⟨if okGroup n = true then n else 0, 0, okGroup n && decide (n = 1), ByteArray.empty, ByteArray.empty, if okGroup n = true then (if n = 1 then 1 else 0) else 0, [], [], [], [], [], ⟨0, 0, 0, ByteArray.empty, ByteArray.empty, 0, 0⟩, ⟨0, 0, 0, ByteArray.empty, ByteArray.empty, 0, 0⟩, [], 0, 0, 0⟩
theorem newS_wf {n : Int} (h : InI n) : (newS n).wf := by
  refine ⟨?_, I0, trivial, (by show ByteArray.empty.size ≤ _; decide), (by show ByteArray.empty.size ≤ _; decide), ?_, trivial, trivial, trivial, trivial, trivial, zplan_wf, zplan_wf, trivial, I0, I0, I0⟩
  · show InI (if okGroup n = true then n else 0)
    split
    · exact h
    · exact I0
  · show InI (if okGroup n = true then (if n = 1 then 1 else 0) else 0)
    split
    · split
      · exact I1
      · exact I0
    · exact I0
def stsN : Nat → List TState
  | 0 => []
  | i + 1 => stsN i ++ [newS ((i : Int) + 1)]
theorem stsN_len : ∀ i, (stsN i).length = i
  | 0 => rfl
  | i + 1 => by simp [stsN, stsN_len i]
def scene1 (a b : Int) : TScene := ⟨a, b, chart1, stsN 7, [], []⟩
theorem scene1_wf {a b : Int} (ha : InI a) (hb : InI b) : (scene1 a b).wf := ⟨ha, hb, chart1_wf, trivial, trivial, trivial⟩
def zscene : TScene := ⟨0, 0, ⟨0, [], 0, 0, ⟨0, 0, 0, ByteArray.empty, ByteArray.empty, 0, 0⟩, []⟩, [], [], []⟩
end Go.YtmpoffijcfaalaaGreat
