/- What a reader reads, as plain functions; events. No program. -/
import Derived.Test.YtcjaodddckbciaaCodecA
import Derived.Test.YtcjaodddckbciaaEng9
namespace Go.Ytcjaodddckbciaa
open Go.Eng

/-- Where a reader stands, and its first fault. -/
structure Rd where
  pos : Nat
  fault : Nat

/-- The next thing: how many bytes it takes, and what is wrong. -/
def Rd.step (s : Rd) (n e : Nat) : Rd := if s.fault ≠ 0 then s else if e ≠ 0 then { s with fault := e } else { s with pos := s.pos + n }
/-- What the next thing reads as: its default where there is none. -/
def Rd.val {α : Type} (s : Rd) (d x : α) (e : Nat) : α := if s.fault ≠ 0 then d else if e ≠ 0 then d else x

def countD (bs : List UInt8) (most : Int) : Nat × Nat × Nat :=
  let (v, n, e) := numD 0 0 bs
  if e = 0 ∧ max most 0 < (v : Int) then (0, 0, 22) else if e ≠ 0 then (0, 0, e) else (v, n, 0)
def textD (bs : List UInt8) (most : Int) : List UInt8 × Nat × Nat :=
  let (v, n, e) := countD bs most
  if e ≠ 0 then ([], 0, e) else if bs.length < n + v then ([], 0, 20) else ((bs.drop n).take v, n + v, 0)
def byteD : List UInt8 → UInt8 × Nat × Nat
  | [] => (0, 0, 20)
  | c :: _ => (c, 1, 0)

/-- A reading. -/
abbrev Rdg (α : Type) := Rd → α × Rd
def rdOf {α : Type} (bs : List UInt8) (d : α) (f : List UInt8 → α × Nat × Nat) : Rdg α := fun s =>
  let (x, n, e) := f (bs.drop s.pos)
  (s.val d x e, s.step n e)
def rdNum (bs : List UInt8) : Rdg Nat := rdOf bs 0 (numD 0 0)
def rdInt (bs : List UInt8) : Rdg Int := fun s => (zag (rdNum bs s).1, (rdNum bs s).2)
def rdByte (bs : List UInt8) : Rdg UInt8 := rdOf bs 0 byteD
def rdCount (bs : List UInt8) (most : Int) : Rdg Nat := rdOf bs 0 (fun l => countD l most)
def rdText (bs : List UInt8) (most : Int) : Rdg (List UInt8) := rdOf bs [] (fun l => textD l most)

structure OpV where
  kind : Int
  key : ByteArray
  other : ByteArray
  n : Int
  lo : Int
  hi : Int
  deriving DecidableEq
structure Ev where
  kind : Int
  client : Int
  node : Int
  other : Int
  n : Int
  op : OpV
  keep : List Int

def OpV.none : OpV := ⟨0, ByteArray.empty, ByteArray.empty, 0, 0, 0⟩
@[reducible] def opCells (o : OpV) : List Value := [.int .i64 o.kind, .string o.key, .string o.other, .int .i64 o.n, .int .i64 o.lo, .int .i64 o.hi]
def OpV.wf (o : OpV) : Prop := InI o.kind ∧ o.key.size ≤ 9223372036854775807 ∧ o.other.size ≤ 9223372036854775807 ∧ InI o.n ∧ InI o.lo ∧ InI o.hi
@[reducible] def evCells (e : Ev) (k : Value) : List Value := [.int .i64 e.kind, .int .i64 e.client, .int .i64 e.node, .int .i64 e.other, .int .i64 e.n, .int .i64 e.op.kind, .string e.op.key, .string e.op.other, .int .i64 e.op.n, .int .i64 e.op.lo, .int .i64 e.op.hi, k]
def Ev.wf (e : Ev) : Prop := InI e.kind ∧ InI e.client ∧ InI e.node ∧ InI e.other ∧ InI e.n ∧ e.op.wf

@[reducible] def evShape : Shape Ev where
  H := Value
  size := 12
  cells := evCells
  sub e k := [⟨k, e.keep⟩]
  wf := Ev.wf
  len _ _ := rfl
  one := by
    intro S w x h ht u hu
    have := oneCell_of_list (ht _ (List.mem_cons_self ..))
    simp only [evCells, List.mem_cons, List.not_mem_nil, or_false] at hu
    rcases hu with rfl | rfl | rfl | rfl | rfl | rfl | rfl | rfl | rfl | rfl | rfl | rfl <;> first | rfl | exact this
@[reducible] instance repEv : Rep Ev := Rep.ofShape evShape

def known (n : Int) : Bool := n = 1 || n = 3 || n = 5
def keeps (k : Int) : Bool := k = 9 || k = 10

/-! ### Writing -/
def encInt (x : Int) : List UInt8 := encNat (zig x)
def encInts : List Int → List UInt8
  | [] => []
  | x :: r => encInt x ++ encInts r
def encText (b : List UInt8) : List UInt8 := encNat b.length ++ b
def encEv (e : Ev) : List UInt8 :=
  encInts [e.kind, e.client, e.node, e.other, e.n] ++
    (if e.kind = 1 then encInts [e.op.kind] ++ encText e.op.key.data.toList ++ encText e.op.other.data.toList ++ encInts [e.op.n, e.op.lo, e.op.hi]
     else if keeps e.kind = true then encNat e.keep.length ++ encInts e.keep else [])
def evBig (e : Ev) : Bool := 16 < e.op.key.size || 16 < e.op.other.size || 64 < e.keep.length
/-- The events of a script, behind bytes b: none where one is too long. -/
def encL (b : List UInt8) : List Ev → Option (List UInt8)
  | [] => some b
  | e :: r => if evBig e = true then none else encL (b ++ encEv e) r
def encS (nodes : Int) (l : List Ev) : List UInt8 × Nat :=
  if known nodes = false then ([], 1) else if 4096 < l.length then ([], 22) else
    match encL [UInt8.ofNat nodes.toNat] l with
    | none => ([], 22)
    | some b => (b, 0)

/-! ### Reading -/
def rdInts (bs : List UInt8) : Nat → Rdg (List Int)
  | 0, s => ([], s)
  | n + 1, s =>
    let (x, s) := rdInt bs s
    let (l, s) := rdInts bs n s
    (x :: l, s)
def rdOp (bs : List UInt8) : Rdg OpV := fun s =>
  let (k, s) := rdInt bs s
  let (key, s) := rdText bs 16 s
  let (other, s) := rdText bs 16 s
  let (n, s) := rdInt bs s
  let (lo, s) := rdInt bs s
  let (hi, s) := rdInt bs s
  (⟨k, ⟨key.toArray⟩, ⟨other.toArray⟩, n, lo, hi⟩, s)
def rdKeep (bs : List UInt8) : Rdg (List Int) := fun s =>
  let (c, s) := rdCount bs 64 s
  rdInts bs c s
def rdEv (bs : List UInt8) : Rdg Ev := fun s =>
  let (k, s) := rdInt bs s
  let (c, s) := rdInt bs s
  let (d, s) := rdInt bs s
  let (o, s) := rdInt bs s
  let (n, s) := rdInt bs s
  if k = 1 then let (op, s) := rdOp bs s; (⟨k, c, d, o, n, op, []⟩, s)
  else if keeps k = true then let (l, s) := rdKeep bs s; (⟨k, c, d, o, n, OpV.none, l⟩, s)
  else (⟨k, c, d, o, n, OpV.none, []⟩, s)
/-- Up to so many events more. -/
def rdEvs (bs : List UInt8) : Nat → Rd → List Ev
  | 0, _ => []
  | f + 1, s => if s.pos < bs.length then
      let (e, s) := rdEv bs s
      if s.fault = 0 then e :: rdEvs bs f s else []
    else []
def decS (bs : List UInt8) : Int × List Ev :=
  let (c, s) := rdByte bs ⟨0, 0⟩
  (if known c.toNat = true then (c.toNat : Int) else 3, rdEvs bs 4096 s)
def plainEv (e : Ev) : Ev := { e with op := if e.kind = 1 then e.op else OpV.none, keep := if keeps e.kind = true then e.keep else [] }

/-! ### For the walks -/
@[reducible] def numTup (p : Nat × Nat × Nat) : Value := .tuple #[.int .u64 (p.1 : Int), .int .i64 (p.2.1 : Int), .int .i64 (p.2.2 : Int)]
@[reducible] def intTup (p : Nat × Nat × Nat) : Value := .tuple #[.int .i64 (p.1 : Int), .int .i64 (p.2.1 : Int), .int .i64 (p.2.2 : Int)]
theorem wrap_u64' {u : Nat} (h : u < 2 ^ 64) : IntKind.u64.wrap (u : Int) = (u : Int) := by rw [wrap_u64, Nat.mod_eq_of_lt h]
theorem shl_ok {i c : Nat} (hi : i ≤ 9) (hc : i = 9 → c ≤ 1) : c % 128 * 2 ^ (7 * i) < 2 ^ 64 := by
  have h : i = 0 ∨ i = 1 ∨ i = 2 ∨ i = 3 ∨ i = 4 ∨ i = 5 ∨ i = 6 ∨ i = 7 ∨ i = 8 ∨ i = 9 := by omega
  rcases h with rfl | rfl | rfl | rfl | rfl | rfl | rfl | rfl | rfl | rfl <;> simp only [Nat.reduceMul, Nat.reducePow] <;> omega
theorem shl_lt {i c v : Nat} (hv : v < 2 ^ (7 * i)) : v + c % 128 * 2 ^ (7 * i) < 2 ^ (7 * (i + 1)) := by
  have h : c % 128 < 128 := Nat.mod_lt _ (by decide)
  have e : 2 ^ (7 * (i + 1)) = 128 * 2 ^ (7 * i) := by rw [Nat.mul_add, Nat.pow_add, Nat.mul_comm]
  rw [e]
  have : c % 128 * 2 ^ (7 * i) ≤ 127 * 2 ^ (7 * i) := Nat.mul_le_mul_right _ (by omega)
  omega
theorem drop_at {α : Type} {bs : List α} {i : Nat} {c : α} (h : bs[i]? = some c) : bs.drop i = c :: bs.drop (i + 1) := by
  obtain ⟨hi, rfl⟩ := List.getElem?_eq_some_iff.1 h
  exact List.drop_eq_getElem_cons hi
end Go.Ytcjaodddckbciaa
