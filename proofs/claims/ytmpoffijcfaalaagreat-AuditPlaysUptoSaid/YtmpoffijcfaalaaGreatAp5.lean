/- Part 5 of auditPlays_holds. -/
import Derived.ProofKit
import Derived.Deep.Slices
import Derived.Test.YtmpoffijcfaalaaGreatAp4

set_option maxRecDepth 20000
set_option maxHeartbeats 1000000
namespace Go.YtmpoffijcfaalaaGreat
open Go.Eng
theorem pow7_le {i : Nat} (h : i ≤ 9) : 2 ^ (7 * i) ≤ 2 ^ 63 := Nat.pow_le_pow_right (by decide) (by omega)
theorem numD_bd : ∀ (bs : List UInt8) (i v : Nat), i ≤ 9 → v < 2 ^ (7 * i) → (numD i v bs).1 < 2 ^ 64 ∧ (numD i v bs).2.1 ≤ i + bs.length ∧ ((numD i v bs).2.2 ≠ 0 → (numD i v bs).1 = 0 ∧ (numD i v bs).2.1 = 0)
 | [], i, v, _, _ => by simp [numD]
 | c :: r, i, v, hi, hv => by
  have hc := c.toNat_lt
  simp only [numD]
  split
  · exact ⟨by decide, Nat.zero_le _, fun _ => ⟨rfl, rfl⟩⟩
  · rename_i h1
    split
    · have hi' : i + 1 ≤ 9 := by omega
      have h := numD_bd r (i + 1) (v + c.toNat % 128 * 2 ^ (7 * i)) hi' (shl_lt hv)
      refine ⟨h.1, ?_, h.2.2⟩
      have := h.2.1
      simp only [List.length_cons]
      omega
    · split
      · exact ⟨by decide, Nat.zero_le _, fun _ => ⟨rfl, rfl⟩⟩
      · refine ⟨?_, by simp only [List.length_cons]; omega, fun h => absurd rfl h⟩
        show v + c.toNat % 128 * 2 ^ (7 * i) < 2 ^ 64
        by_cases h9 : i = 9
        · subst h9
          have : c.toNat % 128 ≤ 1 := by omega
          simp only [Nat.reduceMul, Nat.reducePow] at hv ⊢
          omega
        · have h := shl_lt (c := c.toNat) hv
          have := pow7_le (i := i + 1) (by omega)
          omega
theorem countD_of {bs : List UInt8} {most : Int} {v n e : Nat} (h : numD 0 0 bs = (v, n, e)) : countD bs most = if e = 0 ∧ max most 0 < (v : Int) then (0, 0, 22) else if e ≠ 0 then (0, 0, e) else (v, n, 0) := by
 simp only [countD, h]
theorem countD_bd (bs : List UInt8) (most : Int) : ((countD bs most).1 : Int) ≤ max most 0 ∧ (countD bs most).2.1 ≤ bs.length ∧ ((countD bs most).2.2 ≠ 0 → (countD bs most).1 = 0 ∧ (countD bs most).2.1 = 0) := by
 have hb := numD_bd bs 0 0 (by decide) (by decide)
 rcases h : numD 0 0 bs with ⟨v, n, e⟩
 rw [h] at hb
 simp only [Nat.zero_add] at hb
 rw [countD_of h]
 split
 · exact ⟨by show (0 : Int) ≤ _; omega, Nat.zero_le _, fun _ => ⟨rfl, rfl⟩⟩
 · split
   · exact ⟨by show (0 : Int) ≤ _; omega, Nat.zero_le _, fun _ => ⟨rfl, rfl⟩⟩
   · rename_i h1 h2
     have : e = 0 := by omega
     exact ⟨by show (v : Int) ≤ _; omega, hb.2.1, fun h => absurd rfl h⟩
theorem textD_of {bs : List UInt8} {most : Int} {v n e : Nat} (h : countD bs most = (v, n, e)) : textD bs most = if e ≠ 0 then ([], 0, e) else if bs.length < n + v then ([], 0, 20) else ((bs.drop n).take v, n + v, 0) := by
 simp only [textD, h]
theorem textD_bd (bs : List UInt8) (most : Int) : (textD bs most).2.1 ≤ bs.length ∧ ((textD bs most).2.2 ≠ 0 → (textD bs most).1 = [] ∧ (textD bs most).2.1 = 0) ∧ ((textD bs most).1.length : Int) ≤ max most 0 := by
 have hb := countD_bd bs most
 rcases h : countD bs most with ⟨v, n, e⟩
 rw [h] at hb
 rw [textD_of h]
 simp only at hb
 split
 · exact ⟨Nat.zero_le _, fun _ => ⟨rfl, rfl⟩, by show (0 : Int) ≤ _; omega⟩
 · split
   · exact ⟨Nat.zero_le _, fun _ => ⟨rfl, rfl⟩, by show (0 : Int) ≤ _; omega⟩
   · exact ⟨by show n + v ≤ _; omega, fun h => absurd rfl h, by simp only [List.length_take, List.length_drop]; omega⟩
theorem wrap_u64_int {x : Int} (h0 : 0 ≤ x) (h1 : x < 18446744073709551616) : IntKind.u64.wrap x = x := by
 have := wrap_u64' (u := x.toNat) (by omega)
 rwa [Int.toNat_of_nonneg h0] at this
theorem max_in {x : Int} (h : InI x) : 0 ≤ max x 0 ∧ max x 0 < 9223372036854775808 := by
 obtain ⟨h1, h2⟩ := h
 omega
theorem step_pos {bs : List UInt8} {s : Rd} {n e : Nat} (hp : s.pos ≤ bs.length) (hn : n ≤ (bs.drop s.pos).length) : (s.step n e).pos ≤ bs.length := by
 rw [List.length_drop] at hn
 unfold Rd.step
 split
 · exact hp
 · split
   · exact hp
   · show s.pos + n ≤ _; omega
theorem rdOf_pos {α : Type} {bs : List UInt8} {d : α} {f : List UInt8 → α × Nat × Nat} {s : Rd} (hp : s.pos ≤ bs.length) (hf : ∀ l, (f l).2.1 ≤ l.length) : (rdOf bs d f s).2.pos ≤ bs.length := by
 rcases h : f (bs.drop s.pos) with ⟨x, n, e⟩
 have := hf (bs.drop s.pos)
 rw [h] at this
 simp only [rdOf, h]
 exact step_pos hp this
theorem rdNum_pos {bs : List UInt8} {s : Rd} (hp : s.pos ≤ bs.length) : (rdNum bs s).2.pos ≤ bs.length := rdOf_pos hp fun l => by have := (numD_bd l 0 0 (by decide) (by decide)).2.1; omega
theorem rdInt_pos {bs : List UInt8} {s : Rd} (hp : s.pos ≤ bs.length) : (rdInt bs s).2.pos ≤ bs.length := rdNum_pos hp
theorem rdCount_pos {bs : List UInt8} {most : Int} {s : Rd} (hp : s.pos ≤ bs.length) : (rdCount bs most s).2.pos ≤ bs.length := rdOf_pos hp fun l => (countD_bd l most).2.1
theorem rdText_pos {bs : List UInt8} {most : Int} {s : Rd} (hp : s.pos ≤ bs.length) : (rdText bs most s).2.pos ≤ bs.length := rdOf_pos hp fun l => (textD_bd l most).1
theorem rdNum_lt (bs : List UInt8) (s : Rd) : (rdNum bs s).1 < 2 ^ 64 := by
 have := (numD_bd (bs.drop s.pos) 0 0 (by decide) (by decide)).1
 simp only [rdNum, rdOf, Rd.val]
 split
 · decide
 · split
   · decide
   · exact this
theorem rdInt_in (bs : List UInt8) (s : Rd) : InI (rdInt bs s).1 := zag_in (rdNum_lt bs s)
@[reducible] def rdr (p : Nat) (bv : Value) (s : Rd) : OwnE := bl p 346 [bv, .int .i64 (s.pos : Int), .int .i64 (s.fault : Int)]
@[reducible] def stepTup (n e : Nat) : Value := .tuple #[.int .i64 (n : Int), .int .i64 (e : Int)]
structure TPlan where
 fNumber : Int
 fFrom : Int
 fTo : Int
 fLo : ByteArray
 fHi : ByteArray
 fClient : Int
 fSeq : Int
 deriving DecidableEq, Inhabited
@[reducible] def cPlan (x : TPlan) : List Value := [.int .i64 x.fNumber, .int .i64 x.fFrom, .int .i64 x.fTo, .string x.fLo, .string x.fHi, .int .i64 x.fClient, .int .i64 x.fSeq]
def TPlan.wf (x : TPlan) : Prop := InI x.fNumber ∧ InI x.fFrom ∧ InI x.fTo ∧ x.fLo.size ≤ 9223372036854775807 ∧ x.fHi.size ≤ 9223372036854775807 ∧ InI x.fClient ∧ InI x.fSeq
@[reducible] def sPlan : Shape TPlan where
 H := Unit
 size := 7
 cells x h := cPlan x
 sub x h := []
 wf := TPlan.wf
 len _ _ := rfl
 one := by
  intro S w x h ht u hu
  simp only [cPlan, List.mem_cons, List.not_mem_nil, or_false] at hu
  rcases hu with rfl | rfl | rfl | rfl | rfl | rfl | rfl <;> first | rfl
@[reducible] instance rPlan : Rep TPlan := Rep.ofShape sPlan
theorem pPlan_0 {x : TPlan} : ∀ (S : Nat → Prop) (w : World) (cs : List Value), rPlan.rd S w cs x → repInt.rd S w ((cs.drop 0).take 1) x.fNumber := by
 rintro S w cs ⟨h, rfl, hs, hw⟩
 exact ⟨rfl, hw.1⟩
structure TOp where
 fKind : Int
 fKey : ByteArray
 fOther : ByteArray
 fN : Int
 fLo : Int
 fHi : Int
 deriving DecidableEq, Inhabited
@[reducible] def cOp (x : TOp) : List Value := [.int .i64 x.fKind, .string x.fKey, .string x.fOther, .int .i64 x.fN, .int .i64 x.fLo, .int .i64 x.fHi]
def TOp.wf (x : TOp) : Prop := InI x.fKind ∧ x.fKey.size ≤ 9223372036854775807 ∧ x.fOther.size ≤ 9223372036854775807 ∧ InI x.fN ∧ InI x.fLo ∧ InI x.fHi
@[reducible] def sOp : Shape TOp where
 H := Unit
 size := 6
 cells x h := cOp x
 sub x h := []
 wf := TOp.wf
 len _ _ := rfl
 one := by
  intro S w x h ht u hu
  simp only [cOp, List.mem_cons, List.not_mem_nil, or_false] at hu
  rcases hu with rfl | rfl | rfl | rfl | rfl | rfl <;> first | rfl
@[reducible] instance rOp : Rep TOp := Rep.ofShape sOp
structure TSpan where
 fLo : Int
 fHi : Int
 deriving DecidableEq, Inhabited
@[reducible] def cSpan (x : TSpan) : List Value := [.int .i64 x.fLo, .int .i64 x.fHi]
def TSpan.wf (x : TSpan) : Prop := InI x.fLo ∧ InI x.fHi
@[reducible] def sSpan : Shape TSpan where
 H := Unit
 size := 2
 cells x h := cSpan x
 sub x h := []
 wf := TSpan.wf
 len _ _ := rfl
 one := by
  intro S w x h ht u hu
  simp only [cSpan, List.mem_cons, List.not_mem_nil, or_false] at hu
  rcases hu with rfl | rfl <;> first | rfl
@[reducible] instance rSpan : Rep TSpan := Rep.ofShape sSpan
structure TLock where
 fClient : Int
 fSeq : Int
 fHome : Int
 fN : Int
 deriving DecidableEq, Inhabited
@[reducible] def cLock (x : TLock) : List Value := [.int .i64 x.fClient, .int .i64 x.fSeq, .int .i64 x.fHome, .int .i64 x.fN]
def TLock.wf (x : TLock) : Prop := InI x.fClient ∧ InI x.fSeq ∧ InI x.fHome ∧ InI x.fN
@[reducible] def sLock : Shape TLock where
 H := Unit
 size := 4
 cells x h := cLock x
 sub x h := []
 wf := TLock.wf
 len _ _ := rfl
 one := by
  intro S w x h ht u hu
  simp only [cLock, List.mem_cons, List.not_mem_nil, or_false] at hu
  rcases hu with rfl | rfl | rfl | rfl <;> first | rfl
@[reducible] instance rLock : Rep TLock := Rep.ofShape sLock
theorem pLock_0 {x : TLock} : ∀ (S : Nat → Prop) (w : World) (cs : List Value), rLock.rd S w cs x → repInt.rd S w ((cs.drop 0).take 1) x.fClient := by
 rintro S w cs ⟨h, rfl, hs, hw⟩
 exact ⟨rfl, hw.1⟩
structure THolder where
 fNode : Int
 fLease : Int
 fUp : Int
 fDown : Int
 deriving DecidableEq, Inhabited
@[reducible] def cHolder (x : THolder) : List Value := [.int .i64 x.fNode, .int .i64 x.fLease, .int .i64 x.fUp, .int .i64 x.fDown]
def THolder.wf (x : THolder) : Prop := InI x.fNode ∧ InI x.fLease ∧ InI x.fUp ∧ InI x.fDown
@[reducible] def sHolder : Shape THolder where
 H := Unit
 size := 4
 cells x h := cHolder x
 sub x h := []
 wf := THolder.wf
 len _ _ := rfl
 one := by
  intro S w x h ht u hu
  simp only [cHolder, List.mem_cons, List.not_mem_nil, or_false] at hu
  rcases hu with rfl | rfl | rfl | rfl <;> first | rfl
@[reducible] instance rHolder : Rep THolder := Rep.ofShape sHolder
theorem pHolder_2 {x : THolder} : ∀ (S : Nat → Prop) (w : World) (cs : List Value), rHolder.rd S w cs x → repInt.rd S w ((cs.drop 2).take 1) x.fUp := by
 rintro S w cs ⟨h, rfl, hs, hw⟩
 exact ⟨rfl, hw.2.2.1⟩
theorem pHolder_3 {x : THolder} : ∀ (S : Nat → Prop) (w : World) (cs : List Value), rHolder.rd S w cs x → repInt.rd S w ((cs.drop 3).take 1) x.fDown := by
 rintro S w cs ⟨h, rfl, hs, hw⟩
 exact ⟨rfl, hw.2.2.2⟩
structure TAnswer where
 fErr : Int
 fValue : Int
 fLeast : Int
 fMost : Int
 deriving DecidableEq, Inhabited
@[reducible] def cAnswer (x : TAnswer) : List Value := [.int .i64 x.fErr, .int .i64 x.fValue, .int .i64 x.fLeast, .int .i64 x.fMost]
def TAnswer.wf (x : TAnswer) : Prop := InI x.fErr ∧ InI x.fValue ∧ InI x.fLeast ∧ InI x.fMost
@[reducible] def sAnswer : Shape TAnswer where
 H := Unit
 size := 4
 cells x h := cAnswer x
 sub x h := []
 wf := TAnswer.wf
 len _ _ := rfl
 one := by
  intro S w x h ht u hu
  simp only [cAnswer, List.mem_cons, List.not_mem_nil, or_false] at hu
  rcases hu with rfl | rfl | rfl | rfl <;> first | rfl
@[reducible] instance rAnswer : Rep TAnswer := Rep.ofShape sAnswer
structure TEnd where
 fClient : Int
 fSeq : Int
 deriving DecidableEq, Inhabited
@[reducible] def cEnd (x : TEnd) : List Value := [.int .i64 x.fClient, .int .i64 x.fSeq]
def TEnd.wf (x : TEnd) : Prop := InI x.fClient ∧ InI x.fSeq
@[reducible] def sEnd : Shape TEnd where
 H := Unit
 size := 2
 cells x h := cEnd x
 sub x h := []
 wf := TEnd.wf
 len _ _ := rfl
 one := by
  intro S w x h ht u hu
  simp only [cEnd, List.mem_cons, List.not_mem_nil, or_false] at hu
  rcases hu with rfl | rfl <;> first | rfl
@[reducible] instance rEnd : Rep TEnd := Rep.ofShape sEnd
theorem pEnd_0 {x : TEnd} : ∀ (S : Nat → Prop) (w : World) (cs : List Value), rEnd.rd S w cs x → repInt.rd S w ((cs.drop 0).take 1) x.fClient := by
 rintro S w cs ⟨h, rfl, hs, hw⟩
 exact ⟨rfl, hw.1⟩
theorem pEnd_1 {x : TEnd} : ∀ (S : Nat → Prop) (w : World) (cs : List Value), rEnd.rd S w cs x → repInt.rd S w ((cs.drop 1).take 1) x.fSeq := by
 rintro S w cs ⟨h, rfl, hs, hw⟩
 exact ⟨rfl, hw.2⟩
structure TMark where
 fClient : Int
 fSeq : Int
 fOpen : Bool
 fAnswer : TAnswer
 deriving DecidableEq, Inhabited
@[reducible] def cMark (x : TMark) : List Value := [.int .i64 x.fClient, .int .i64 x.fSeq, .bool x.fOpen, .int .i64 x.fAnswer.fErr, .int .i64 x.fAnswer.fValue, .int .i64 x.fAnswer.fLeast, .int .i64 x.fAnswer.fMost]
def TMark.wf (x : TMark) : Prop := InI x.fClient ∧ InI x.fSeq ∧ True ∧ x.fAnswer.wf
@[reducible] def sMark : Shape TMark where
 H := Unit
 size := 7
 cells x h := cMark x
 sub x h := []
 wf := TMark.wf
 len _ _ := rfl
 one := by
  intro S w x h ht u hu
  simp only [cMark, List.mem_cons, List.not_mem_nil, or_false] at hu
  rcases hu with rfl | rfl | rfl | rfl | rfl | rfl | rfl <;> first | rfl
@[reducible] instance rMark : Rep TMark := Rep.ofShape sMark
structure TDeal where
 fClient : Int
 fSeq : Int
 fKey : ByteArray
 fOther : ByteArray
 fN : Int
 fMine : Int
 fTheirs : Int
 fFate : Int
 deriving DecidableEq, Inhabited
@[reducible] def cDeal (x : TDeal) : List Value := [.int .i64 x.fClient, .int .i64 x.fSeq, .string x.fKey, .string x.fOther, .int .i64 x.fN, .int .i64 x.fMine, .int .i64 x.fTheirs, .int .i64 x.fFate]
def TDeal.wf (x : TDeal) : Prop := InI x.fClient ∧ InI x.fSeq ∧ x.fKey.size ≤ 9223372036854775807 ∧ x.fOther.size ≤ 9223372036854775807 ∧ InI x.fN ∧ InI x.fMine ∧ InI x.fTheirs ∧ InI x.fFate
@[reducible] def sDeal : Shape TDeal where
 H := Unit
 size := 8
 cells x h := cDeal x
 sub x h := []
 wf := TDeal.wf
 len _ _ := rfl
 one := by
  intro S w x h ht u hu
  simp only [cDeal, List.mem_cons, List.not_mem_nil, or_false] at hu
  rcases hu with rfl | rfl | rfl | rfl | rfl | rfl | rfl | rfl <;> first | rfl
@[reducible] instance rDeal : Rep TDeal := Rep.ofShape sDeal
theorem pDeal_0 {x : TDeal} : ∀ (S : Nat → Prop) (w : World) (cs : List Value), rDeal.rd S w cs x → repInt.rd S w ((cs.drop 0).take 1) x.fClient := by
 rintro S w cs ⟨h, rfl, hs, hw⟩
 exact ⟨rfl, hw.1⟩
theorem pDeal_1 {x : TDeal} : ∀ (S : Nat → Prop) (w : World) (cs : List Value), rDeal.rd S w cs x → repInt.rd S w ((cs.drop 1).take 1) x.fSeq := by
 rintro S w cs ⟨h, rfl, hs, hw⟩
 exact ⟨rfl, hw.2.1⟩
structure TWait where
 fKind : Int
 fClient : Int
 fSeq : Int
 fNode : Int
 fHome : Int
 fOp : TOp
 deriving DecidableEq, Inhabited
@[reducible] def cWait (x : TWait) : List Value := [.int .i64 x.fKind, .int .i64 x.fClient, .int .i64 x.fSeq, .int .i64 x.fNode, .int .i64 x.fHome, .int .i64 x.fOp.fKind, .string x.fOp.fKey, .string x.fOp.fOther, .int .i64 x.fOp.fN, .int .i64 x.fOp.fLo, .int .i64 x.fOp.fHi]
def TWait.wf (x : TWait) : Prop := InI x.fKind ∧ InI x.fClient ∧ InI x.fSeq ∧ InI x.fNode ∧ InI x.fHome ∧ x.fOp.wf
@[reducible] def sWait : Shape TWait where
 H := Unit
 size := 11
 cells x h := cWait x
 sub x h := []
 wf := TWait.wf
 len _ _ := rfl
 one := by
  intro S w x h ht u hu
  simp only [cWait, List.mem_cons, List.not_mem_nil, or_false] at hu
  rcases hu with rfl | rfl | rfl | rfl | rfl | rfl | rfl | rfl | rfl | rfl | rfl <;> first | rfl
@[reducible] instance rWait : Rep TWait := Rep.ofShape sWait
structure TPlace where
 fGroup : Int
 fFrom : ByteArray
 fEpoch : Int
 deriving DecidableEq, Inhabited
@[reducible] def cPlace (x : TPlace) : List Value := [.int .i64 x.fGroup, .string x.fFrom, .int .i64 x.fEpoch]
def TPlace.wf (x : TPlace) : Prop := InI x.fGroup ∧ x.fFrom.size ≤ 9223372036854775807 ∧ InI x.fEpoch
@[reducible] def sPlace : Shape TPlace where
 H := Unit
 size := 3
 cells x h := cPlace x
 sub x h := []
 wf := TPlace.wf
 len _ _ := rfl
 one := by
  intro S w x h ht u hu
  simp only [cPlace, List.mem_cons, List.not_mem_nil, or_false] at hu
  rcases hu with rfl | rfl | rfl <;> first | rfl
@[reducible] instance rPlace : Rep TPlace := Rep.ofShape sPlace
theorem pPlace_0 {x : TPlace} : ∀ (S : Nat → Prop) (w : World) (cs : List Value), rPlace.rd S w cs x → repInt.rd S w ((cs.drop 0).take 1) x.fGroup := by
 rintro S w cs ⟨h, rfl, hs, hw⟩
 exact ⟨rfl, hw.1⟩
theorem pPlace_1 {x : TPlace} : ∀ (S : Nat → Prop) (w : World) (cs : List Value), rPlace.rd S w cs x → repStr.rd S w ((cs.drop 1).take 1) x.fFrom := by
 rintro S w cs ⟨h, rfl, hs, hw⟩
 exact ⟨rfl, hw.2.1⟩
theorem pPlace_2 {x : TPlace} : ∀ (S : Nat → Prop) (w : World) (cs : List Value), rPlace.rd S w cs x → repInt.rd S w ((cs.drop 2).take 1) x.fEpoch := by
 rintro S w cs ⟨h, rfl, hs, hw⟩
 exact ⟨rfl, hw.2.2⟩
structure TRight where
 fGroup : Int
 fKey : ByteArray
 fLease : Int
 fNet : Int
 deriving DecidableEq, Inhabited
@[reducible] def cRight (x : TRight) : List Value := [.int .i64 x.fGroup, .string x.fKey, .int .i64 x.fLease, .int .i64 x.fNet]
def TRight.wf (x : TRight) : Prop := InI x.fGroup ∧ x.fKey.size ≤ 9223372036854775807 ∧ InI x.fLease ∧ InI x.fNet
@[reducible] def sRight : Shape TRight where
 H := Unit
 size := 4
 cells x h := cRight x
 sub x h := []
 wf := TRight.wf
 len _ _ := rfl
 one := by
  intro S w x h ht u hu
  simp only [cRight, List.mem_cons, List.not_mem_nil, or_false] at hu
  rcases hu with rfl | rfl | rfl | rfl <;> first | rfl
@[reducible] instance rRight : Rep TRight := Rep.ofShape sRight
theorem pRight_0 {x : TRight} : ∀ (S : Nat → Prop) (w : World) (cs : List Value), rRight.rd S w cs x → repInt.rd S w ((cs.drop 0).take 1) x.fGroup := by
 rintro S w cs ⟨h, rfl, hs, hw⟩
 exact ⟨rfl, hw.1⟩
theorem pRight_1 {x : TRight} : ∀ (S : Nat → Prop) (w : World) (cs : List Value), rRight.rd S w cs x → repStr.rd S w ((cs.drop 1).take 1) x.fKey := by
 rintro S w cs ⟨h, rfl, hs, hw⟩
 exact ⟨rfl, hw.2.1⟩
theorem pRight_2 {x : TRight} : ∀ (S : Nat → Prop) (w : World) (cs : List Value), rRight.rd S w cs x → repInt.rd S w ((cs.drop 2).take 1) x.fLease := by
 rintro S w cs ⟨h, rfl, hs, hw⟩
 exact ⟨rfl, hw.2.2.1⟩
theorem pRight_3 {x : TRight} : ∀ (S : Nat → Prop) (w : World) (cs : List Value), rRight.rd S w cs x → repInt.rd S w ((cs.drop 3).take 1) x.fNet := by
 rintro S w cs ⟨h, rfl, hs, hw⟩
 exact ⟨rfl, hw.2.2.2⟩
structure TAge where
 fClient : Int
 fSeq : Int
 fTicks : Int
 deriving DecidableEq, Inhabited
@[reducible] def cAge (x : TAge) : List Value := [.int .i64 x.fClient, .int .i64 x.fSeq, .int .i64 x.fTicks]
def TAge.wf (x : TAge) : Prop := InI x.fClient ∧ InI x.fSeq ∧ InI x.fTicks
@[reducible] def sAge : Shape TAge where
 H := Unit
 size := 3
 cells x h := cAge x
 sub x h := []
 wf := TAge.wf
 len _ _ := rfl
 one := by
  intro S w x h ht u hu
  simp only [cAge, List.mem_cons, List.not_mem_nil, or_false] at hu
  rcases hu with rfl | rfl | rfl <;> first | rfl
@[reducible] instance rAge : Rep TAge := Rep.ofShape sAge
structure TTotal where
 fKey : ByteArray
 fSpan : TSpan
 fValue : Int
 deriving DecidableEq, Inhabited
@[reducible] def cTotal (x : TTotal) : List Value := [.string x.fKey, .int .i64 x.fSpan.fLo, .int .i64 x.fSpan.fHi, .int .i64 x.fValue]
def TTotal.wf (x : TTotal) : Prop := x.fKey.size ≤ 9223372036854775807 ∧ x.fSpan.wf ∧ InI x.fValue
@[reducible] def sTotal : Shape TTotal where
 H := Unit
 size := 4
 cells x h := cTotal x
 sub x h := []
 wf := TTotal.wf
 len _ _ := rfl
 one := by
  intro S w x h ht u hu
  simp only [cTotal, List.mem_cons, List.not_mem_nil, or_false] at hu
  rcases hu with rfl | rfl | rfl | rfl <;> first | rfl
@[reducible] instance rTotal : Rep TTotal := Rep.ofShape sTotal
theorem pTotal_0 {x : TTotal} : ∀ (S : Nat → Prop) (w : World) (cs : List Value), rTotal.rd S w cs x → repStr.rd S w ((cs.drop 0).take 1) x.fKey := by
 rintro S w cs ⟨h, rfl, hs, hw⟩
 exact ⟨rfl, hw.1⟩
structure TAccount where
 fKey : ByteArray
 fSpan : TSpan
 fBase : Int
 fRound : Int
 fHolders : List THolder
 fLock : TLock
 deriving DecidableEq, Inhabited
@[reducible] def cAccount (x : TAccount) (k0 : Value) : List Value := [.string x.fKey, .int .i64 x.fSpan.fLo, .int .i64 x.fSpan.fHi, .int .i64 x.fBase, .int .i64 x.fRound, k0, .int .i64 x.fLock.fClient, .int .i64 x.fLock.fSeq, .int .i64 x.fLock.fHome, .int .i64 x.fLock.fN]
def TAccount.wf (x : TAccount) : Prop := x.fKey.size ≤ 9223372036854775807 ∧ x.fSpan.wf ∧ InI x.fBase ∧ InI x.fRound ∧ True ∧ x.fLock.wf
@[reducible] def sAccount : Shape TAccount where
 H := Value
 size := 10
 cells x h := cAccount x h
 sub x h := [⟨h, x.fHolders⟩]
 wf := TAccount.wf
 len _ _ := rfl
 one := by
  intro S w x h ht u hu
  have o0 := oneCell_of_list (ht _ (List.mem_cons_self ..))
  simp only [cAccount, List.mem_cons, List.not_mem_nil, or_false] at hu
  rcases hu with rfl | rfl | rfl | rfl | rfl | rfl | rfl | rfl | rfl | rfl <;> first | rfl | exact o0
@[reducible] instance rAccount : Rep TAccount := Rep.ofShape sAccount
theorem pAccount_0 {x : TAccount} : ∀ (S : Nat → Prop) (w : World) (cs : List Value), rAccount.rd S w cs x → repStr.rd S w ((cs.drop 0).take 1) x.fKey := by
 rintro S w cs ⟨h, rfl, hs, hw⟩
 exact ⟨rfl, hw.1⟩
theorem pAccount_3 {x : TAccount} : ∀ (S : Nat → Prop) (w : World) (cs : List Value), rAccount.rd S w cs x → repInt.rd S w ((cs.drop 4).take 1) x.fRound := by
 rintro S w cs ⟨h, rfl, hs, hw⟩
 exact ⟨rfl, hw.2.2.2.1⟩
theorem pAccount_4 {x : TAccount} : ∀ (S : Nat → Prop) (w : World) (cs : List Value), rAccount.rd S w cs x → (@repList THolder rHolder).rd S w ((cs.drop 5).take 1) x.fHolders := by
 rintro S w cs ⟨h, rfl, hs, hw⟩
 exact list_rd (hs _ (List.mem_cons_self ..))
theorem pAccount_5 {x : TAccount} : ∀ (S : Nat → Prop) (w : World) (cs : List Value), rAccount.rd S w cs x → rLock.rd S w ((cs.drop 6).take 4) x.fLock := by
 rintro S w cs ⟨h, rfl, hs, hw⟩
 exact ⟨(), rfl, by simp, hw.2.2.2.2.2⟩
structure TChart where
 fIndex : Int
 fPlaces : List TPlace
 fNext : Int
 fLast : Int
 fPlan : TPlan
 fMarks : List TMark
 deriving DecidableEq, Inhabited
@[reducible] def cChart (x : TChart) (k0 k1 : Value) : List Value := [.int .i64 x.fIndex, k0, .int .i64 x.fNext, .int .i64 x.fLast, .int .i64 x.fPlan.fNumber, .int .i64 x.fPlan.fFrom, .int .i64 x.fPlan.fTo, .string x.fPlan.fLo, .string x.fPlan.fHi, .int .i64 x.fPlan.fClient, .int .i64 x.fPlan.fSeq, k1]
def TChart.wf (x : TChart) : Prop := InI x.fIndex ∧ True ∧ InI x.fNext ∧ InI x.fLast ∧ x.fPlan.wf ∧ True
@[reducible] def sChart : Shape TChart where
 H := Value × Value
 size := 12
 cells x h := cChart x h.1 h.2
 sub x h := [⟨h.1, x.fPlaces⟩, ⟨h.2, x.fMarks⟩]
 wf := TChart.wf
 len _ _ := rfl
 one := by
  intro S w x h ht u hu
  have o0 := oneCell_of_list (ht _ (List.mem_cons_self ..))
  have o1 := oneCell_of_list (ht _ (List.mem_cons_of_mem _ (List.mem_cons_self ..)))
  simp only [cChart, List.mem_cons, List.not_mem_nil, or_false] at hu
  rcases hu with rfl | rfl | rfl | rfl | rfl | rfl | rfl | rfl | rfl | rfl | rfl | rfl <;> first | rfl | exact o0 | exact o1
@[reducible] instance rChart : Rep TChart := Rep.ofShape sChart
theorem pChart_0 {x : TChart} : ∀ (S : Nat → Prop) (w : World) (cs : List Value), rChart.rd S w cs x → repInt.rd S w ((cs.drop 0).take 1) x.fIndex := by
 rintro S w cs ⟨h, rfl, hs, hw⟩
 exact ⟨rfl, hw.1⟩
theorem pChart_1 {x : TChart} : ∀ (S : Nat → Prop) (w : World) (cs : List Value), rChart.rd S w cs x → (@repList TPlace rPlace).rd S w ((cs.drop 1).take 1) x.fPlaces := by
 rintro S w cs ⟨h, rfl, hs, hw⟩
 exact list_rd (hs _ (List.mem_cons_self ..))
theorem pChart_2 {x : TChart} : ∀ (S : Nat → Prop) (w : World) (cs : List Value), rChart.rd S w cs x → repInt.rd S w ((cs.drop 2).take 1) x.fNext := by
 rintro S w cs ⟨h, rfl, hs, hw⟩
 exact ⟨rfl, hw.2.2.1⟩
theorem pChart_3 {x : TChart} : ∀ (S : Nat → Prop) (w : World) (cs : List Value), rChart.rd S w cs x → repInt.rd S w ((cs.drop 3).take 1) x.fLast := by
 rintro S w cs ⟨h, rfl, hs, hw⟩
 exact ⟨rfl, hw.2.2.2.1⟩
theorem pChart_4 {x : TChart} : ∀ (S : Nat → Prop) (w : World) (cs : List Value), rChart.rd S w cs x → rPlan.rd S w ((cs.drop 4).take 7) x.fPlan := by
 rintro S w cs ⟨h, rfl, hs, hw⟩
 exact ⟨(), rfl, by simp, hw.2.2.2.2.1⟩
structure TState where
 fGroup : Int
 fIndex : Int
 fOwns : Bool
 fLo : ByteArray
 fHi : ByteArray
 fEpoch : Int
 fAccounts : List TAccount
 fMarks : List TMark
 fWaits : List TWait
 fDeals : List TDeal
 fEnds : List TEnd
 fSeal : TPlan
 fOut : TPlan
 fImage : List UInt8
 fAbsorbed : Int
 fRefused : Int
 fUndone : Int
 deriving DecidableEq, Inhabited
@[reducible] def cState (x : TState) (k0 k1 k2 k3 k4 k5 : Value) : List Value := [.int .i64 x.fGroup, .int .i64 x.fIndex, .bool x.fOwns, .string x.fLo, .string x.fHi, .int .i64 x.fEpoch, k0, k1, k2, k3, k4, .int .i64 x.fSeal.fNumber, .int .i64 x.fSeal.fFrom, .int .i64 x.fSeal.fTo, .string x.fSeal.fLo, .string x.fSeal.fHi, .int .i64 x.fSeal.fClient, .int .i64 x.fSeal.fSeq, .int .i64 x.fOut.fNumber, .int .i64 x.fOut.fFrom, .int .i64 x.fOut.fTo, .string x.fOut.fLo, .string x.fOut.fHi, .int .i64 x.fOut.fClient, .int .i64 x.fOut.fSeq, k5, .int .i64 x.fAbsorbed, .int .i64 x.fRefused, .int .i64 x.fUndone]
def TState.wf (x : TState) : Prop := InI x.fGroup ∧ InI x.fIndex ∧ True ∧ x.fLo.size ≤ 9223372036854775807 ∧ x.fHi.size ≤ 9223372036854775807 ∧ InI x.fEpoch ∧ True ∧ True ∧ True ∧ True ∧ True ∧ x.fSeal.wf ∧ x.fOut.wf ∧ True ∧ InI x.fAbsorbed ∧ InI x.fRefused ∧ InI x.fUndone
@[reducible] def sState : Shape TState where
 H := Value × Value × Value × Value × Value × Value
 size := 29
 cells x h := cState x h.1 h.2.1 h.2.2.1 h.2.2.2.1 h.2.2.2.2.1 h.2.2.2.2.2
 sub x h := [⟨h.1, x.fAccounts⟩, ⟨h.2.1, x.fMarks⟩, ⟨h.2.2.1, x.fWaits⟩, ⟨h.2.2.2.1, x.fDeals⟩, ⟨h.2.2.2.2.1, x.fEnds⟩, ⟨h.2.2.2.2.2, x.fImage⟩]
 wf := TState.wf
 len _ _ := rfl
 one := by
  intro S w x h ht u hu
  have o0 := oneCell_of_list (ht _ (List.mem_cons_self ..))
  have o1 := oneCell_of_list (ht _ (List.mem_cons_of_mem _ (List.mem_cons_self ..)))
  have o2 := oneCell_of_list (ht _ (List.mem_cons_of_mem _ (List.mem_cons_of_mem _ (List.mem_cons_self ..))))
  have o3 := oneCell_of_list (ht _ (List.mem_cons_of_mem _ (List.mem_cons_of_mem _ (List.mem_cons_of_mem _ (List.mem_cons_self ..)))))
  have o4 := oneCell_of_list (ht _ (List.mem_cons_of_mem _ (List.mem_cons_of_mem _ (List.mem_cons_of_mem _ (List.mem_cons_of_mem _ (List.mem_cons_self ..))))))
  have o5 := oneCell_of_list (ht _ (List.mem_cons_of_mem _ (List.mem_cons_of_mem _ (List.mem_cons_of_mem _ (List.mem_cons_of_mem _ (List.mem_cons_of_mem _ (List.mem_cons_self ..)))))))
  simp only [cState, List.mem_cons, List.not_mem_nil, or_false] at hu
  rcases hu with rfl | rfl | rfl | rfl | rfl | rfl | rfl | rfl | rfl | rfl | rfl | rfl | rfl | rfl | rfl | rfl | rfl | rfl | rfl | rfl | rfl | rfl | rfl | rfl | rfl | rfl | rfl | rfl | rfl <;> first | rfl | exact o0 | exact o1 | exact o2 | exact o3 | exact o4 | exact o5
@[reducible] instance rState : Rep TState := Rep.ofShape sState
theorem pState_0 {x : TState} : ∀ (S : Nat → Prop) (w : World) (cs : List Value), rState.rd S w cs x → repInt.rd S w ((cs.drop 0).take 1) x.fGroup := by
 rintro S w cs ⟨h, rfl, hs, hw⟩
 exact ⟨rfl, hw.1⟩
theorem pState_1 {x : TState} : ∀ (S : Nat → Prop) (w : World) (cs : List Value), rState.rd S w cs x → repInt.rd S w ((cs.drop 1).take 1) x.fIndex := by
 rintro S w cs ⟨h, rfl, hs, hw⟩
 exact ⟨rfl, hw.2.1⟩
theorem pState_6 {x : TState} : ∀ (S : Nat → Prop) (w : World) (cs : List Value), rState.rd S w cs x → (@repList TAccount rAccount).rd S w ((cs.drop 6).take 1) x.fAccounts := by
 rintro S w cs ⟨h, rfl, hs, hw⟩
 exact list_rd (hs _ (List.mem_cons_self ..))
theorem pState_9 {x : TState} : ∀ (S : Nat → Prop) (w : World) (cs : List Value), rState.rd S w cs x → (@repList TDeal rDeal).rd S w ((cs.drop 9).take 1) x.fDeals := by
 rintro S w cs ⟨h, rfl, hs, hw⟩
 exact list_rd (hs _ (List.mem_cons_of_mem _ (List.mem_cons_of_mem _ (List.mem_cons_of_mem _ (List.mem_cons_self ..)))))
theorem pState_12 {x : TState} : ∀ (S : Nat → Prop) (w : World) (cs : List Value), rState.rd S w cs x → rPlan.rd S w ((cs.drop 18).take 7) x.fOut := by
 rintro S w cs ⟨h, rfl, hs, hw⟩
 exact ⟨(), rfl, by simp, hw.2.2.2.2.2.2.2.2.2.2.2.2.1⟩
theorem pState_13 {x : TState} : ∀ (S : Nat → Prop) (w : World) (cs : List Value), rState.rd S w cs x → (@repList UInt8 repByte).rd S w ((cs.drop 25).take 1) x.fImage := by
 rintro S w cs ⟨h, rfl, hs, hw⟩
 exact list_rd (hs _ (List.mem_cons_of_mem _ (List.mem_cons_of_mem _ (List.mem_cons_of_mem _ (List.mem_cons_of_mem _ (List.mem_cons_of_mem _ (List.mem_cons_self ..)))))))
theorem pState_14 {x : TState} : ∀ (S : Nat → Prop) (w : World) (cs : List Value), rState.rd S w cs x → repInt.rd S w ((cs.drop 26).take 1) x.fAbsorbed := by
 rintro S w cs ⟨h, rfl, hs, hw⟩
 exact ⟨rfl, hw.2.2.2.2.2.2.2.2.2.2.2.2.2.2.1⟩
theorem pState_15 {x : TState} : ∀ (S : Nat → Prop) (w : World) (cs : List Value), rState.rd S w cs x → repInt.rd S w ((cs.drop 27).take 1) x.fRefused := by
 rintro S w cs ⟨h, rfl, hs, hw⟩
 exact ⟨rfl, hw.2.2.2.2.2.2.2.2.2.2.2.2.2.2.2.1⟩
structure TScene where
 fNode : Int
 fNodes : Int
 fChart : TChart
 fStates : List TState
 fRights : List TRight
 fAges : List TAge
 deriving DecidableEq, Inhabited
@[reducible] def cScene (x : TScene) (k0 k1 k2 k3 k4 : Value) : List Value := [.int .i64 x.fNode, .int .i64 x.fNodes, .int .i64 x.fChart.fIndex, k0, .int .i64 x.fChart.fNext, .int .i64 x.fChart.fLast, .int .i64 x.fChart.fPlan.fNumber, .int .i64 x.fChart.fPlan.fFrom, .int .i64 x.fChart.fPlan.fTo, .string x.fChart.fPlan.fLo, .string x.fChart.fPlan.fHi, .int .i64 x.fChart.fPlan.fClient, .int .i64 x.fChart.fPlan.fSeq, k1, k2, k3, k4]
def TScene.wf (x : TScene) : Prop := InI x.fNode ∧ InI x.fNodes ∧ x.fChart.wf ∧ True ∧ True ∧ True
@[reducible] def sScene : Shape TScene where
 H := Value × Value × Value × Value × Value
 size := 17
 cells x h := cScene x h.1 h.2.1 h.2.2.1 h.2.2.2.1 h.2.2.2.2
 sub x h := [⟨h.1, x.fChart.fPlaces⟩, ⟨h.2.1, x.fChart.fMarks⟩, ⟨h.2.2.1, x.fStates⟩, ⟨h.2.2.2.1, x.fRights⟩, ⟨h.2.2.2.2, x.fAges⟩]
 wf := TScene.wf
 len _ _ := rfl
 one := by
  intro S w x h ht u hu
  have o0 := oneCell_of_list (ht _ (List.mem_cons_self ..))
  have o1 := oneCell_of_list (ht _ (List.mem_cons_of_mem _ (List.mem_cons_self ..)))
  have o2 := oneCell_of_list (ht _ (List.mem_cons_of_mem _ (List.mem_cons_of_mem _ (List.mem_cons_self ..))))
  have o3 := oneCell_of_list (ht _ (List.mem_cons_of_mem _ (List.mem_cons_of_mem _ (List.mem_cons_of_mem _ (List.mem_cons_self ..)))))
  have o4 := oneCell_of_list (ht _ (List.mem_cons_of_mem _ (List.mem_cons_of_mem _ (List.mem_cons_of_mem _ (List.mem_cons_of_mem _ (List.mem_cons_self ..))))))
  simp only [cScene, List.mem_cons, List.not_mem_nil, or_false] at hu
  rcases hu with rfl | rfl | rfl | rfl | rfl | rfl | rfl | rfl | rfl | rfl | rfl | rfl | rfl | rfl | rfl | rfl | rfl <;> first | rfl | exact o0 | exact o1 | exact o2 | exact o3 | exact o4
@[reducible] instance rScene : Rep TScene := Rep.ofShape sScene
theorem pScene_2 {x : TScene} : ∀ (S : Nat → Prop) (w : World) (cs : List Value), rScene.rd S w cs x → rChart.rd S w ((cs.drop 2).take 12) x.fChart := by
 rintro S w cs ⟨h, rfl, hs, hw⟩
 exact ⟨⟨h.1, h.2.1⟩, rfl, fun t ht => hs t (by simp only [List.mem_cons, List.not_mem_nil, or_false] at ht ⊢; rcases ht with rfl | rfl <;> simp), hw.2.2.1⟩
theorem pScene_3 {x : TScene} : ∀ (S : Nat → Prop) (w : World) (cs : List Value), rScene.rd S w cs x → (@repList TState rState).rd S w ((cs.drop 14).take 1) x.fStates := by
 rintro S w cs ⟨h, rfl, hs, hw⟩
 exact list_rd (hs _ (List.mem_cons_of_mem _ (List.mem_cons_of_mem _ (List.mem_cons_self ..))))
@[reducible] def pZ : TPlan := ⟨0, 0, 0, ByteArray.empty, ByteArray.empty, 0, 0⟩
@[reducible] def errF (b : Bool) : Int := if b = true then 0 else 21
theorem errF_ok (b : Bool) : decide (errF b = 0) = b := by cases b <;> rfl
def far : Int := 4611686018427387904
def okGroup (g : Int) : Bool := decide (g ≥ 1) && decide (g < 8)
def okNum (n : Int) : Bool := decide (n ≥ 0) && decide (n ≤ far)
def okClient (n : Int) : Bool := decide (n ≥ 1) && decide (n ≤ 8)
def okSeq (n : Int) : Bool := decide (n ≥ 1) && decide (n ≤ far)
def okWhose (c q : Int) : Bool := decide (c ≥ 1) && decide (c ≤ 8) && decide (q ≥ 1) && decide (q ≤ far)
def okKey (k : ByteArray) : Bool := decide ((k.size : Int) ≥ 1) && decide ((k.size : Int) ≤ 16)
def leB (x y : ByteArray) : Bool := ltB x y || decide (x = y)
def isNil (k : ByteArray) : Bool := decide (k = ByteArray.empty)
def within (lo hi key : ByteArray) : Bool := (ltB lo key || decide (lo = key)) && (isNil hi || ltB key hi)
def spansP (lo hi : ByteArray) : Bool := decide ((lo.size : Int) ≤ 16) && decide ((hi.size : Int) ≤ 16) && (isNil hi || ltB lo hi)
def hasP (s : TSpan) (v : Int) : Bool := decide (s.fLo ≤ v) && decide (v ≤ s.fHi)
def ownsP (s : TState) (key : ByteArray) : Bool := s.fOwns && within s.fLo s.fHi key
def sealedP (s : TState) (key : ByteArray) : Bool := (!decide (s.fSeal.fNumber = 0)) && within s.fSeal.fLo s.fSeal.fHi key
def plannedP (p : TPlan) : Bool := decide (p.fNumber ≥ 1) && decide (p.fNumber ≤ far) && okGroup p.fFrom && okGroup p.fTo && (!decide (p.fFrom = p.fTo)) && spansP p.fLo p.fHi
def plan19 (p : TPlan) : Bool := okNum p.fNumber && decide (p.fNumber > 0) && okGroup p.fFrom && okGroup p.fTo && (!decide (p.fFrom = p.fTo)) && spansP p.fLo p.fHi
def keeperP (l : TLock) : Bool := decide (l.fClient ≥ 1) && decide (l.fSeq ≥ 1) && decide (l.fHome ≥ 1) && decide (l.fHome < 8)
def fate18 (m t : Int) : Int := if decide (m = 1) && decide (t = 1) then 1 else if decide (m = 2) || decide (t = 2) then 2 else 0
def fateP (m t : Int) : Int := if decide (m = 2) || decide (t = 2) then 2 else if decide (m = 1) && decide (t = 1) then 1 else 0
def lockedP (a : TAccount) : Bool := !decide (a.fLock.fClient = 0)
def endP (l : List TPlace) (i : Int) : ByteArray := if decide (i < 0) || decide (i ≥ (l.length : Int) - 1) then ByteArray.empty else (l.getD (i + 1).toNat default).fFrom
def lmayP (r : TRight) : Bool := okGroup r.fGroup && decide ((r.fKey.size : Int) ≥ 1) && decide ((r.fKey.size : Int) ≤ 16) && decide (r.fLease ≥ 1)
def lmay16 (r : TRight) : Bool := okGroup r.fGroup && okKey r.fKey && decide (r.fLease ≥ 1)
def lastI : Nat → (Nat → Bool) → Nat
 | 0, _ => 0
 | n + 1, p => if p n = true then n else lastI n p
def firstI (n : Nat) (p : Nat → Bool) : Option Nat := (List.range n).find? p
theorem firstI_some {n j : Nat} {p : Nat → Bool} (hj : j < n) (h0 : ∀ k, k < j → p k = false) (h : p j = true) : firstI n p = some j :=
 List.find?_range_eq_some.2 ⟨h, List.mem_range.2 hj, fun k hk => by simp [h0 k hk]⟩
theorem firstI_none {n : Nat} {p : Nat → Bool} (h : ∀ k, k < n → p k = false) : firstI n p = none :=
 List.find?_range_eq_none.2 fun k hk => by simp [h k hk]
theorem not_f {b : Bool} (h : b = false) : (!b) = true := by rw [h]; rfl
theorem not_t {b : Bool} (h : b = true) : (!b) = false := by rw [h]; rfl
def prevI (f : Nat → Int) : Nat → Int
 | 0 => 0
 | i + 1 => f i
def findP (l : List TPlace) (key : ByteArray) : Nat := lastI l.length (fun j => !ltB key (l.getD j default).fFrom)
def find17 (l : List TPlace) (key : ByteArray) : Nat := (firstI l.length (fun j => within (l.getD j default).fFrom (endP l j) key)).getD 0
def ofP (l : List TPlace) (gr : Int) : Option Nat := firstI l.length (fun j => decide ((l.getD j default).fGroup = gr))
@[reducible] def ofV (o : Option Nat) : Value := .tuple #[.int .i64 ((o.getD 0 : Nat) : Int), .bool o.isSome]
def countsP (l : List Int) : Bool := allI l.length (fun j => !(decide (l.getD j default < 0) || decide (l.getD j default > far)))
def markP (p : Int) (m : TMark) : Bool := decide (m.fClient ≤ p) || decide (m.fClient > 8) || decide (m.fSeq < 0) || decide (m.fSeq > far) || (m.fOpen && (decide (m.fSeq = 0) || !decide (m.fAnswer = ⟨0, 0, 0, 0⟩)))
def marksP (l : List TMark) : Bool := allI l.length (fun j => !markP (prevI (fun k => (l.getD k default).fClient) j) (l.getD j default))
def endsP (l : List TEnd) : Bool := allI l.length (fun j => !(decide ((l.getD j default).fClient ≤ prevI (fun k => (l.getD k default).fClient) j) || !okWhose (l.getD j default).fClient (l.getD j default).fSeq))
theorem not_dectrue {p : Prop} [Decidable p] (h : ¬ p) : (!decide p) = true := by simp [h]
theorem not_decfalse {p : Prop} [Decidable p] (h : p) : (!decide p) = false := by simp [h]
def dmay1 (d : TDeal) : Bool := !okWhose d.fClient d.fSeq || decide (d.fN < 1) || decide (d.fKey = d.fOther) || decide (d.fMine < 0) || decide (d.fMine > 2) || decide (d.fTheirs < 0) || decide (d.fTheirs > 2)
def dmay2 (d : TDeal) : Bool := decide ((d.fKey.size : Int) < 1) || decide ((d.fKey.size : Int) > 16) || decide ((d.fOther.size : Int) < 1) || decide ((d.fOther.size : Int) > 16)
def dmayP (d : TDeal) : Bool := if dmay1 d = true then false else if dmay2 d = true then false else decide (d.fFate = fateP d.fMine d.fTheirs) || (decide (fateP d.fMine d.fTheirs = 0) && decide (d.fFate = 2))
def ownedP (s : TState) : Bool := if (!s.fOwns) = true then (isNil s.fLo && isNil s.fHi && decide ((s.fAccounts.length : Int) = 0) && decide ((s.fWaits.length : Int) = 0) && decide (s.fSeal = ⟨0, 0, 0, ByteArray.empty, ByteArray.empty, 0, 0⟩)) else decide (s.fEpoch ≥ 1) && spansP s.fLo s.fHi
def waitP0 (s : TState) (w : TWait) : Bool := !okWhose w.fClient w.fSeq || !okKey w.fOp.fKey || !ownsP s w.fOp.fKey || sealedP s w.fOp.fKey
def waitOp (w : TWait) : Bool := decide (w.fNode ≥ 1) && decide (w.fNode ≤ 5) && decide (w.fHome = 0) && decide (w.fOp.fKind ≥ 1) && decide (w.fOp.fKind ≤ 5) && (decide (w.fOp.fKind > 2) || decide (w.fOp.fN ≥ 1))
def waitPrep (w : TWait) : Bool := decide (w.fNode = 0) && okGroup w.fHome && (!decide (w.fOp.fN = 0)) && decide (w.fOp = ⟨0, w.fOp.fKey, ByteArray.empty, w.fOp.fN, 0, 0⟩)
def waitP (s : TState) (w : TWait) : Bool := if waitP0 s w = true then false else if decide (w.fKind = 1) = true then waitOp w else if decide (w.fKind = 2) = true then waitPrep w else false
def holdP (p : Int) (h : THolder) : Bool := decide (h.fNode ≤ p) || decide (h.fNode > 5) || decide (h.fLease < 1) || decide (h.fUp < 0) || decide (h.fDown < 0)
def holdersP (l : List THolder) : Bool := allI l.length (fun j => !holdP (prevI (fun k => (l.getD k default).fNode) j) (l.getD j default))
def mark14 (p : Int) (m : TMark) : Bool := decide (m.fClient ≤ p) || decide (m.fClient > 8) || decide (m.fSeq < 0) || decide (m.fSeq > far) || (m.fOpen && (decide (m.fSeq < 1) || !decide (m.fAnswer = ⟨0, 0, 0, 0⟩)))
def marks14 (l : List TMark) : Bool := allI l.length (fun j => !mark14 (prevI (fun k => (l.getD k default).fClient) j) (l.getD j default))
def may18a (d : TDeal) : Bool := !okClient d.fClient || !okSeq d.fSeq || !okKey d.fKey || !okKey d.fOther || decide (d.fKey = d.fOther) || decide (d.fN < 1) || decide (d.fMine < 0) || decide (d.fMine > 2) || decide (d.fTheirs < 0) || decide (d.fTheirs > 2)
def may18 (d : TDeal) : Bool := if may18a d = true then false else decide (d.fFate = fate18 d.fMine d.fTheirs) || (decide (fate18 d.fMine d.fTheirs = 0) && decide (d.fFate = 2))
def placeO (l : List TDeal) (c q : Int) : Option Nat := firstI l.length (fun j => decide ((l.getD j default).fClient = c) && decide ((l.getD j default).fSeq = q))
def placeI : Option Nat → Int
 | some j => (j : Int)
 | none => -1
def books18a (l : List TDeal) : Bool := allI l.length (fun j => !(!may18 (l.getD j default) || !decide (placeI (placeO l (l.getD j default).fClient (l.getD j default).fSeq) = (j : Int))))
def books18 (l : List TDeal) : Bool := books18a l && decide ((l.length : Int) ≤ 4)
def ends18 (l : List TEnd) : Bool := allI l.length (fun j => !(decide ((l.getD j default).fClient ≤ prevI (fun k => (l.getD k default).fClient) j) || decide ((l.getD j default).fClient > 8) || !okSeq (l.getD j default).fSeq))
def wait19a (s : TState) (w : TWait) : Bool := !okClient w.fClient || !okSeq w.fSeq || !okKey w.fOp.fKey || !ownsP s w.fOp.fKey || sealedP s w.fOp.fKey
def wait19o (w : TWait) : Bool := decide (w.fNode ≥ 1) && decide (w.fNode ≤ 5) && decide (w.fHome = 0) && decide (w.fOp.fKind ≥ 1) && decide (w.fOp.fKind ≤ 5) && (decide (w.fOp.fKind > 2) || decide (w.fOp.fN ≥ 1))
def wait19p (w : TWait) : Bool := decide (w.fNode = 0) && okGroup w.fHome && decide (w.fOp = ⟨0, w.fOp.fKey, ByteArray.empty, w.fOp.fN, 0, 0⟩) && (!decide (w.fOp.fN = 0))
def wait19 (s : TState) (w : TWait) : Bool := if wait19a s w = true then false else if decide (w.fKind = 1) = true then wait19o w else if decide (w.fKind = 2) = true then wait19p w else false
def belowP (x y : TRight) : Bool := decide (x.fGroup < y.fGroup) || (decide (x.fGroup = y.fGroup) && ltB x.fKey y.fKey)
def right16j (l : List TRight) (j : Nat) : Bool := !lmay16 (l.getD j default) || (decide ((j : Int) > 0) && !belowP (l.getD ((j : Int) - 1).toNat default) (l.getD j default))
def rights16 (l : List TRight) : Bool := allI l.length (fun j => !right16j l j)
def place17a (l : List TPlace) : Bool := decide ((l.length : Int) < 1) || decide ((l.length : Int) > 7) || !isNil (l.getD 0 default).fFrom
def place17b (l : List TPlace) (j : Nat) : Bool := decide ((l.getD j default).fGroup < 1) || decide ((l.getD j default).fGroup ≥ 8) || decide ((l.getD j default).fEpoch < 1) || decide ((l.getD j default).fEpoch > far) || decide (((l.getD j default).fFrom.size : Int) > 16) || (decide ((j : Int) > 0) && leB (l.getD j default).fFrom (l.getD ((j : Int) - 1).toNat default).fFrom)
def place17c (l : List TPlace) (j : Nat) : Bool := allI j (fun k => !decide ((l.getD k default).fGroup = (l.getD j default).fGroup))
def places17 (l : List TPlace) : Bool := if place17a l = true then false else allI l.length (fun j => !place17b l j && place17c l j)
def maxI (f : Nat → Int) : Nat → Int
 | 0 => 0
 | n + 1 => max (maxI f n) (f n)
def epochP (l : List TPlace) : Int := maxI (fun j => (l.getD j default).fEpoch) l.length
theorem wrapu (v : Int) : IntKind.u64.wrap v = v % 18446744073709551616 := by simp [IntKind.wrap, IntKind.signed, IntKind.bits]
theorem wrapi (v : Int) : IntKind.i64.wrap v = (v + 9223372036854775808) % 18446744073709551616 - 9223372036854775808 := by
 simp only [IntKind.wrap, IntKind.signed, IntKind.bits]
 simp
 omega
def sg (x : Int) : Int := if x < 0 then -1 else 0
theorem sg_in (x : Int) : sg x = -1 ∧ x < 0 ∨ sg x = 0 ∧ 0 ≤ x := by unfold sg; split <;> omega
theorem shr63 {x : Int} (h : InI x) : x.fdiv (2 ^ min (63 : Int).toNat IntKind.i64.bits) = sg x := by
 have e : (2 : Int) ^ min (63 : Int).toNat IntKind.i64.bits = 9223372036854775808 := by decide
 rw [e, Int.fdiv_eq_ediv_of_nonneg _ (by decide)]
 obtain ⟨h1, h2⟩ := h
 have := sg_in x
 omega
def allIn (l : List Int) : Prop := ∀ x ∈ l, InI x
theorem getD_InI {l : List Int} (h : allIn l) {i : Nat} (hi : i < l.length) : InI (l.getD i default) := by
 have : l.getD i default = l[i] := by simp [List.getD, List.getElem?_eq_getElem hi]
 rw [this]
 exact h _ (List.getElem_mem hi)
theorem sum_take {l : List Int} {i : Nat} (hi : i < l.length) : (l.take (i + 1)).sum = (l.take i).sum + l.getD i default := by
 have e : l.getD i default = l[i] := by simp [List.getD, List.getElem?_eq_getElem hi]
 rw [e, List.take_add_one, List.getElem?_eq_getElem hi]
 rw [List.sum_append_int]
 simp
def sumOk (s : Int) : Bool := decide (-9223372036854775808 ≤ s) && decide (s ≤ 9223372036854775807)
def sumI (s : Int) : Int := if sumOk s = true then s else 0
def sumE (s : Int) : Int := if sumOk s = true then 0 else 10
@[reducible] def sumV (s : Int) : Value := .tuple #[.int .i64 (sumI s), .int .i64 (sumE s)]
theorem sum_step {S hi lo x : Int} (h1 : hi = S / 18446744073709551616 % 18446744073709551616) (h2 : lo = S % 18446744073709551616) (hx : InI x) :
 (hi + sg x % 18446744073709551616 + (lo + x % 18446744073709551616 + 0) / 18446744073709551616) % 18446744073709551616 = (S + x) / 18446744073709551616 % 18446744073709551616 ∧
 (lo + x % 18446744073709551616 + 0) % 18446744073709551616 = (S + x) % 18446744073709551616 := by
 obtain ⟨h3, h4⟩ := hx
 have := sg_in x
 omega
theorem sum_end {S hi lo : Int} (h1 : hi = S / 18446744073709551616 % 18446744073709551616) (h2 : lo = S % 18446744073709551616) (hb : -85070591730234615856620279821087277056 ≤ S ∧ S ≤ 85070591730234615856620279821087277056) :
 (hi = sg (IntKind.i64.wrap lo) % 18446744073709551616 ↔ sumOk S = true) ∧ (sumOk S = true → IntKind.i64.wrap lo = S) := by
 rw [wrapi]
 have := sg_in ((lo + 9223372036854775808) % 18446744073709551616 - 9223372036854775808)
 simp only [sumOk, Bool.and_eq_true, decide_eq_true_eq]
 omega
theorem add_ov {x y : Int} (hx : InI x) (hy : InI y) : ((decide (x ≥ 0) && decide (y ≥ 0) && decide (IntKind.i64.wrap (x + y) < 0)) || (decide (x < 0) && decide (y < 0) && decide (IntKind.i64.wrap (x + y) ≥ 0))) = !sumOk (x + y) ∧ (sumOk (x + y) = true → IntKind.i64.wrap (x + y) = x + y) := by
 rw [wrapi]
 obtain ⟨a1, a2⟩ := hx
 obtain ⟨b1, b2⟩ := hy
 constructor
 · rw [Bool.eq_iff_iff]
   simp only [sumOk, Bool.or_eq_true, Bool.and_eq_true, decide_eq_true_eq, Bool.not_eq_true', Bool.and_eq_false_iff, decide_eq_false_iff_not]
   omega
 · simp only [sumOk, Bool.and_eq_true, decide_eq_true_eq]
   omega
def fitsP (a : TAccount) (l : TLock) : Bool := decide (sumE (a.fBase + l.fN) = 0) && hasP a.fSpan (sumI (a.fBase + l.fN))
def upsS (a : TAccount) : Int := a.fBase + (a.fHolders.map (·.fUp)).sum
def downsS (a : TAccount) : Int := a.fBase - (a.fHolders.map (·.fDown)).sum
@[reducible] def lentV (a : TAccount) : Value := .tuple #[.int .i64 (sumI (upsS a)), .int .i64 (sumI (downsS a)), .bool (decide (sumE (upsS a) = 0) && decide (sumE (downsS a) = 0))]
def acc1 (a : TAccount) : Bool := decide ((a.fKey.size : Int) < 1) || decide ((a.fKey.size : Int) > 16) || !hasP a.fSpan a.fBase || decide (a.fRound < 0) || !holdersP a.fHolders
def acc2 (a : TAccount) : Bool := !(decide (sumE (upsS a) = 0) && decide (sumE (downsS a) = 0)) || decide (sumI (upsS a) > a.fSpan.fHi) || decide (sumI (downsS a) < a.fSpan.fLo)
def accP (a : TAccount) : Bool := if acc1 a = true then false else if acc2 a = true then false else if decide (a.fLock.fClient = 0) = true then decide (a.fLock = ⟨0, 0, 0, 0⟩) else keeperP a.fLock && decide ((a.fHolders.length : Int) = 0) && fitsP a a.fLock
def aplainP (a : TAccount) : Bool := accP a && decide (a.fSpan = ⟨0, 0⟩) && decide (a.fBase = 0) && decide ((a.fHolders.length : Int) = 0) && decide (a.fRound = 0) && !lockedP a
def orderP (x y : TRight) : Int := if (!decide (x.fGroup = y.fGroup)) = true then (if decide (x.fGroup < y.fGroup) = true then -1 else 1) else cmpB x.fKey y.fKey
def ledgerj (l : List TRight) (j : Nat) : Bool := !lmayP (l.getD j default) || (decide ((j : Int) > 0) && decide (orderP (l.getD ((j : Int) - 1).toNat default) (l.getD j default) ≥ 0))
def ledgerP (l : List TRight) : Bool := allI l.length (fun j => !ledgerj l j)
theorem wrapi_in (v : Int) : InI (IntKind.i64.wrap v) := by
 rw [wrapi]
 constructor <;> omega
theorem sumI_in (s : Int) : InI (sumI s) := by
 unfold sumI
 split
 · rename_i h
   simp only [sumOk, Bool.and_eq_true, decide_eq_true_eq] at h
   exact h
 · exact ⟨by decide, by decide⟩
def accsj (s : TState) (j : Nat) : Bool := !decide (errF (accP (s.fAccounts.getD j default)) = 0) || aplainP (s.fAccounts.getD j default) || !ownsP s (s.fAccounts.getD j default).fKey || (decide ((j : Int) > 0) && leB (s.fAccounts.getD j default).fKey (s.fAccounts.getD ((j : Int) - 1).toNat default).fKey)
def accsP (s : TState) : Bool := if decide ((s.fAccounts.length : Int) > 12) = true then false else allI s.fAccounts.length (fun j => !accsj s j)
def dealsj (l : List TDeal) (j : Nat) : Bool := !dmayP (l.getD j default) || !decide (placeI (placeO l (l.getD j default).fClient (l.getD j default).fSeq) = (j : Int))
def dealsP (l : List TDeal) : Bool := if decide ((l.length : Int) > 4) = true then false else allI l.length (fun j => !dealsj l j)
def seenB (l : List TPlace) : Nat → Nat → Bool
 | 0, _ => false
 | i + 1, g => seenB l i g || decide ((l.getD i default).fGroup = (g : Int))
def seenC (l : List TPlace) (i : Nat) : List Value := (List.range 8).map (fun g => .bool (seenB l i g))
theorem seen_get {l : List TPlace} {i : Nat} {g : Int} (h0 : 0 ≤ g) (h1 : g < 8) : (seenC l i)[0 + g.toNat * 1]? = some (.bool (seenB l i g.toNat)) := by
 have : 0 + g.toNat * 1 < 8 := by omega
 unfold seenC
 rw [List.getElem?_map, List.getElem?_range this]
 simp
theorem seen_len (l : List TPlace) (i : Nat) : (seenC l i).length = 8 := by simp [seenC]
theorem seen_set {l : List TPlace} {i : Nat} (h0 : 0 ≤ (l.getD i default).fGroup) (h1 : (l.getD i default).fGroup < 8) : (seenC l i).set (0 + (l.getD i default).fGroup.toNat * 1) (.bool true) = seenC l (i + 1) := by
 unfold seenC
 refine List.ext_getElem? fun n => ?_
 rw [List.getElem?_set]
 by_cases hn : n < 8
 · rw [List.getElem?_map, List.getElem?_map, List.getElem?_range hn]
   simp only [List.length_map, List.length_range, Option.map_some]
   split
   · rename_i e
     rw [if_pos (by omega)]
     have : decide ((l.getD i default).fGroup = (n : Int)) = true := decide_eq_true (by omega)
     simp only [seenB, this, Bool.or_true]
   · rename_i e
     have : decide ((l.getD i default).fGroup = (n : Int)) = false := decide_eq_false (by omega)
     simp only [seenB, this, Bool.or_false]
 · rw [List.getElem?_eq_none (by simp; omega), List.getElem?_eq_none (by simp; omega), if_neg (by omega)]
def rpl1 (l : List TPlace) : Bool := decide ((l.length : Int) < 1) || !isNil (l.getD 0 default).fFrom
def rplj (l : List TPlace) (j : Nat) : Bool := !okGroup (l.getD j default).fGroup || seenB l j (l.getD j default).fGroup.toNat || decide ((l.getD j default).fEpoch < 1) || decide ((l.getD j default).fEpoch > far) || decide (((l.getD j default).fFrom.size : Int) > 16) || (decide ((j : Int) > 0) && leB (l.getD j default).fFrom (l.getD ((j : Int) - 1).toNat default).fFrom)
def rplacesP (l : List TPlace) : Bool := if rpl1 l = true then false else allI l.length (fun j => !rplj l j)
theorem lastI_lt : ∀ {n : Nat} {p : Nat → Bool}, 0 < n → lastI n p < n
 | n + 1, p, _ => by
  unfold lastI
  split
  · omega
  · cases n with
    | zero => simp [lastI]
    | succ n => have := lastI_lt (n := n + 1) (p := p) (Nat.succ_pos n); omega
theorem findP_lt {l : List TPlace} {k : ByteArray} (h : 0 < l.length) : findP l k < l.length := lastI_lt h
theorem firstI_lt {n j : Nat} {p : Nat → Bool} (h : firstI n p = some j) : j < n := List.mem_range.1 (List.find?_range_eq_some.1 h).2.1
theorem ofP_lt {l : List TPlace} {g : Int} (h : 0 < l.length) : (ofP l g).getD 0 < l.length := by
 unfold ofP
 cases e : firstI l.length (fun j => decide ((l.getD j default).fGroup = g)) with
 | none => exact h
 | some j => exact firstI_lt e
def split1 (c : TChart) : Bool := (ofP c.fPlaces c.fPlan.fTo).isSome || !decide (c.fPlan.fTo = c.fNext - 1) || decide ((c.fPlaces.length : Int) ≥ 7) || isNil c.fPlan.fLo || decide ((c.fPlan.fLo.size : Int) > 16)
def split2 (c : TChart) : Bool := decide (c.fPlan.fFrom = (c.fPlaces.getD (findP c.fPlaces c.fPlan.fLo) default).fGroup) && (!decide (c.fPlan.fLo = (c.fPlaces.getD (findP c.fPlaces c.fPlan.fLo) default).fFrom)) && decide (c.fPlan.fHi = endP c.fPlaces (findP c.fPlaces c.fPlan.fLo))
def splitsP (c : TChart) : Bool := if split1 c = true then false else split2 c
def nxt (c : TChart) : Int := (((ofP c.fPlaces c.fPlan.fTo).getD 0 : Nat) : Int) + 1
def merge1 (c : TChart) : Bool := !(ofP c.fPlaces c.fPlan.fTo).isSome || decide (nxt c ≥ (c.fPlaces.length : Int))
def merge2 (c : TChart) : Bool := decide (c.fPlan.fFrom = (c.fPlaces.getD (nxt c).toNat default).fGroup) && decide (c.fPlan.fLo = (c.fPlaces.getD (nxt c).toNat default).fFrom) && decide (c.fPlan.fHi = endP c.fPlaces (nxt c))
def mergesP (c : TChart) : Bool := if merge1 c = true then false else merge2 c
def plan1 (c : TChart) : Bool := decide (c.fIndex < 0) || decide (c.fIndex > far) || decide (c.fLast < 0) || decide (c.fLast > far) || decide (c.fNext < 2) || decide (c.fNext > 8)
def plan2 (c : TChart) : Bool := !decide (errF (rplacesP c.fPlaces) = 0) || !decide (errF (marksP c.fMarks) = 0)
def plan3 (c : TChart) : Bool := decide (placeI (firstI c.fPlaces.length (fun j => decide ((c.fPlaces.getD j default).fGroup ≥ c.fNext))) ≥ 0)
def plan4 (c : TChart) : Bool := decide (c.fPlan = ⟨0, 0, 0, ByteArray.empty, ByteArray.empty, 0, 0⟩)
def plan5 (c : TChart) : Bool := decide (c.fPlan.fNumber = c.fLast) && (!decide (c.fPlan.fNumber = 0)) && okWhose c.fPlan.fClient c.fPlan.fSeq && decide (epochP c.fPlaces < far) && (splitsP c || mergesP c)
def planP (c : TChart) : Bool := if plan1 c = true then false else if plan2 c = true then false else if plan3 c = true then false else if plan4 c = true then true else plan5 c
structure RawP where
 v : Value
instance repRaw : Rep RawP where
 size := 1
 agg := false
 rd S w cs x := cs = [x.v] ∧ x.v.oneCell' = true
 len := by rintro S w cs x ⟨rfl, _⟩; rfl
 one := by
  rintro S w cs x ⟨rfl, h⟩ u hu
  simp only [List.mem_cons, List.not_mem_nil, or_false] at hu
  subst hu
  exact h
 keep := by
  rintro S S' w w' cs x h _ _
  exact h
@[reducible] instance cellRaw : CellR repRaw := ⟨fun x => x.v, fun x => x.v.oneCell' = true, fun h => h⟩
structure Tpen where
 r : Nat
@[reducible] def Tpen.fIn (x : Tpen) : RawP := ⟨.pointer (some ⟨x.r, 0, none⟩)⟩
@[reducible] def Tpen.fBad (_ : Tpen) : Int := 0
@[reducible] def spen : Shape Tpen where
 H := Unit
 size := 4
 cells x _ := [.pointer (some ⟨x.r, 0, none⟩), .slice none 0 0, .bool false, .int .i64 0]
 sub _ _ := []
 wf _ := True
 len _ _ := rfl
 one := by
  intro S w x h ht u hu
  simp only [List.mem_cons, List.not_mem_nil, or_false] at hu
  rcases hu with rfl | rfl | rfl | rfl <;> rfl
@[reducible] instance rpen : Rep Tpen := Rep.ofShape spen
theorem ppen_0 {x : Tpen} : ∀ (S : Nat → Prop) (w : World) (cs : List Value), rpen.rd S w cs x → repRaw.rd S w ((cs.drop 0).take 1) x.fIn := by
 rintro S w cs ⟨h, rfl, hs, hw⟩
 exact ⟨rfl, rfl⟩
theorem ppen_3 {x : Tpen} : ∀ (S : Nat → Prop) (w : World) (cs : List Value), rpen.rd S w cs x → repInt.rd S w ((cs.drop 3).take 1) x.fBad := by
 rintro S w cs ⟨h, rfl, hs, hw⟩
 exact ⟨rfl, (by decide : (-9223372036854775808 : Int) ≤ 0), (by decide : (0 : Int) ≤ 9223372036854775807)⟩
def stopB (s : Rd) : Bool := !decide ((s.fault : Int) = 0) || !decide ((0 : Int) = 0)
theorem stopB_iff (s : Rd) : stopB s = true ↔ s.fault ≠ 0 := by
 unfold stopB
 simp
theorem stopB_not (s : Rd) : stopB s = false ↔ s.fault = 0 := by
 rw [← Bool.not_eq_true, stopB_iff]
 simp
def flagD : List UInt8 → Bool × Nat × Nat
 | [] => (false, 0, 20)
 | c :: _ => if 1 < c.toNat then (false, 0, 21) else (decide (c = 1), 1, 0)
def rdFlag (bs : List UInt8) : Rdg Bool := rdOf bs false flagD
theorem step_stop {s : Rd} (h : s.fault ≠ 0) (n e : Nat) : s.step n e = s := by unfold Rd.step; rw [if_pos h]
theorem rdOf_stop {α : Type} {bs : List UInt8} {d : α} {f : List UInt8 → α × Nat × Nat} {s : Rd} (h : s.fault ≠ 0) : (rdOf bs d f s).2 = s := by
 rcases hN : f (bs.drop s.pos) with ⟨x, n, e⟩
 simp only [rdOf, hN, step_stop h]
theorem rdInt_stop {bs : List UInt8} {s : Rd} (h : s.fault ≠ 0) : (rdInt bs s).2 = s := rdOf_stop (d := 0) (f := numD 0 0) h
theorem rdText_stop {bs : List UInt8} {m : Int} {s : Rd} (h : s.fault ≠ 0) : (rdText bs m s).2 = s := rdOf_stop (d := []) (f := fun l => textD l m) h
theorem rdFlag_stop {bs : List UInt8} {s : Rd} (h : s.fault ≠ 0) : (rdFlag bs s).2 = s := rdOf_stop (d := false) (f := flagD) h
theorem flagD_bd (bs : List UInt8) : (flagD bs).2.1 ≤ bs.length ∧ ((flagD bs).2.2 ≠ 0 → (flagD bs).1 = false ∧ (flagD bs).2.1 = 0) := by
 cases bs with
 | nil => simp [flagD]
 | cons c r =>
  simp only [flagD]
  by_cases h : 1 < c.toNat
  · rw [if_pos h]; simp
  · rw [if_neg h]; simp
theorem rdFlag_pos {bs : List UInt8} {s : Rd} (hp : s.pos ≤ bs.length) : (rdFlag bs s).2.pos ≤ bs.length := rdOf_pos hp fun l => (flagD_bd l).1
def endE (bs : List UInt8) (s : Rd) : Int := if s.fault = 0 ∧ s.pos < bs.length then 24 else (s.fault : Int)
def intsP (bs : List UInt8) : List Nat → List Value × Rd → List Value × Rd
 | [], p => p
 | o :: r, p => intsP bs r (p.1.set o (.int .i64 (rdInt bs p.2).1), (rdInt bs p.2).2)
def textsP (bs : List UInt8) : List Nat → List Value × Rd → List Value × Rd
 | [], p => p
 | o :: r, p => textsP bs r (p.1.set o (.string ⟨(rdText bs 65535 p.2).1.toArray⟩), (rdText bs 65535 p.2).2)
def zeroI (cells : List Value) (offs : List Nat) : Prop := ∀ o ∈ offs, cells[o]? = some (.int .i64 0)
def zeroS (cells : List Value) (offs : List Nat) : Prop := ∀ o ∈ offs, cells[o]? = some (.string ByteArray.empty)
def ptrs (b : Nat) (offs : List Nat) : List RawP := offs.map fun o => ⟨.pointer (some ⟨b, o, none⟩)⟩
theorem ptrs_len {b : Nat} {offs : List Nat} : (ptrs b offs).length = offs.length := List.length_map _
theorem ptrs_at {b : Nat} {offs : List Nat} {i : Nat} (h : i < offs.length) : (ptrs b offs)[i]? = some ⟨.pointer (some ⟨b, offs.getD i 0, none⟩)⟩ := by
 simp [ptrs, List.getD, List.getElem?_eq_getElem h]
theorem intsP_pos {bs : List UInt8} : ∀ {offs : List Nat} {p : List Value × Rd}, p.2.pos ≤ bs.length → (intsP bs offs p).2.pos ≤ bs.length
 | [], _, h => h
 | o :: r, p, h => intsP_pos (offs := r) (rdInt_pos h)
theorem textsP_pos {bs : List UInt8} : ∀ {offs : List Nat} {p : List Value × Rd}, p.2.pos ≤ bs.length → (textsP bs offs p).2.pos ≤ bs.length
 | [], _, h => h
 | o :: r, p, h => textsP_pos (offs := r) (rdText_pos h)
theorem set_same {cells : List Value} {o : Nat} {v : Value} (h : cells[o]? = some v) : cells.set o v = cells := by
 refine List.ext_getElem? fun n => ?_
 rw [List.getElem?_set]
 split
 · rename_i e
   subst e
   have := (List.getElem?_eq_some_iff.1 h).1
   rw [if_pos this, h]
 · rfl
theorem lt_of_at {cells : List Value} {o : Nat} {v : Value} (h : cells[o]? = some v) : o < cells.length := (List.getElem?_eq_some_iff.1 h).1
theorem drop_cons {offs : List Nat} {i : Nat} (h : i < offs.length) : offs.drop i = offs.getD i 0 :: offs.drop (i + 1) := by
 rw [List.drop_eq_getElem_cons h]
 simp [List.getD, List.getElem?_eq_getElem h]
theorem rdInt_stop1 {bs : List UInt8} {s : Rd} (h : s.fault ≠ 0) : (rdInt bs s).1 = 0 := by
 have : (rdNum bs s).1 = 0 := by
  simp only [rdNum, rdOf, Rd.val]
  rw [if_pos h]
 show zag (rdNum bs s).1 = 0
 rw [this]
 rfl
theorem rdText_stop1 {bs : List UInt8} {m : Int} {s : Rd} (h : s.fault ≠ 0) : (rdText bs m s).1 = [] := by
 simp only [rdText, rdOf, Rd.val]
 rw [if_pos h]
theorem rdFlag_stop1 {bs : List UInt8} {s : Rd} (h : s.fault ≠ 0) : (rdFlag bs s).1 = false := by
 simp only [rdFlag, rdOf, Rd.val]
 rw [if_pos h]
theorem intsP_stop {bs : List UInt8} {o : Nat} {r : List Nat} {c : List Value} {s : Rd} (h : s.fault ≠ 0) (hc : c[o]? = some (.int .i64 0)) : intsP bs (o :: r) (c, s) = intsP bs r (c, s) := by
 simp only [intsP, rdInt_stop1 h, rdInt_stop h]
 rw [set_same hc]
theorem zero_set {α : Type} {c : List Value} {o : Nat} {r : List Nat} {u z : Value} (hn : (o :: r).Nodup) (h : ∀ x ∈ r, c[x]? = some z) : ∀ x ∈ r, (c.set o u)[x]? = some z := by
 intro x hx
 rw [List.getElem?_set_ne]
 · exact h x hx
 · rintro rfl
   exact (List.nodup_cons.1 hn).1 hx
theorem ptrs_rd {b : Nat} (S : Nat → Prop) (w : World) : ∀ offs : List Nat, Go.Eng.rdL S w (offs.map fun o => [.pointer (some ⟨b, o, none⟩)]) (ptrs b offs)
 | [] => trivial
 | _ :: r => ⟨⟨rfl, rfl⟩, ptrs_rd S w r⟩
def rdMany {α : Type} (rd : Rd → α × Rd) : Nat → Rd → List α × Rd
 | 0, s => ([], s)
 | n + 1, s => if s.fault = 0 then ((rd s).1 :: (rdMany rd n (rd s).2).1, (rdMany rd n (rd s).2).2) else ([], s)
def rdLs {α : Type} (bs : List UInt8) (rd : Rd → α × Rd) (s : Rd) : List α × Rd := rdMany rd (rdCount bs 1024 s).1 (rdCount bs 1024 s).2
def fN (bs : List UInt8) (s : Rd) : Rd := (rdFlag bs s).2
end Go.YtmpoffijcfaalaaGreat
namespace Go.Eng
open Go.YtmpoffijcfaalaaGreat
section
theorem zI {c : List Value} {offs : List Nat} (h : offs.map (fun o => c[o]?) = offs.map fun _ => some (.int .i64 0)) : zeroI c offs := fun o ho => List.map_inj_left.1 h o ho
theorem zS {c : List Value} {offs : List Nat} (h : offs.map (fun o => c[o]?) = offs.map fun _ => some (.string ByteArray.empty)) : zeroS c offs := fun o ho => List.map_inj_left.1 h o ho
@[reducible] def xP (l : List Oper) (L Lz : Own) (vs : List (Nat × Value)) (b : Nat) (offs : List Nat) : RH :=
 ⟨depX l, fun _ _ => True, fun i u => bif Nat.beq i (l.length - 2) then [⟨u, ptrs b offs⟩] else [], lkE vs, fun h _ => match h with
  | [] => L
  | _ => Lz, [l.length - 1], [[], [l.length - 1]]⟩
def plP (fs : List (Nat × List Nat)) (l : List Oper) (env : Env) (vs : List (Nat × Value)) : List Oper → Nat → List (Option Value)
 | [], _ => []
 | o :: r, i => (match o with
  | ⟨some _, op, _, _, _, none⟩ => pv fs (envOf l (VV (lkE vs) fun _ => undef) (depX l i) ++ env) op
  | _ => none) :: plP fs l env vs r (i + 1)
def valP (vs : List (Nat × Value)) : List Oper → Nat → List (Option Value)
 | [], _ => []
 | _ :: r, i => lkE vs i :: valP vs r (i + 1)
section
variable {c : Cx} {l : List Oper} {env : Env} {L Lz : Own} {D : List Atom} {vs : List (Nat × Value)} {b : Nat} {offs : List Nat}
theorem plP_at {fs : List (Nat × List Nat)} : ∀ {r : List Oper} {i : Nat}, plP fs l env vs r i = valP vs r i → (valP vs r i).all (·.isSome) = true → ∀ k o, r[k]? = some o → ∃ d op t p af u, o = ⟨some d, op, t, p, af, none⟩ ∧ lkE vs (i + k) = some u ∧ pv fs (envOf l (VV (lkE vs) fun _ => undef) (depX l (i + k)) ++ env) op = some u
 | [], _, _, _, _, _, h => by simp at h
 | o :: r, i, h, ha, 0, o', h0 => by
  simp only [List.getElem?_cons_zero, Option.some.injEq] at h0
  subst h0
  simp only [plP, valP, List.cons.injEq, List.all_cons, Bool.and_eq_true] at h ha
  obtain ⟨u, hu⟩ := Option.isSome_iff_exists.1 ha.1
  have h1 := h.1
  rw [hu] at h1
  split at h1
  · exact ⟨_, _, _, _, _, u, rfl, hu, h1⟩
  · cases h1
 | o :: r, i, h, ha, k + 1, o', h0 => by
  simp only [List.getElem?_cons_succ] at h0
  simp only [plP, valP, List.cons.injEq, List.all_cons, Bool.and_eq_true] at h ha
  have := plP_at (i := i + 1) h.2 ha.2 k o' h0
  rwa [show i + 1 + k = i + (k + 1) by omega] at this
theorem envOf_V {V : Nat → Value} {m : Nat} (hk : ∀ k, k < m → (dstOf l k).isSome = true → (lkE vs k).isSome = true) {is : List Nat} (hi : ∀ k ∈ is, k < m) : envOf l (VV (lkE vs) V) is = envOf l (VV (lkE vs) fun _ => undef) is := envOf_congr fun k hki hd => by
 obtain ⟨v, hv⟩ := Option.isSome_iff_exists.1 (hk k (hi k hki) hd)
 simp [VV, hv]
theorem flat1 {g : Nat → Value} : ∀ offs : List Nat, (offs.map fun o => [g o]).flatten = offs.map g
 | [] => rfl
 | _ :: r => by rw [List.map_cons, List.flatten_cons, flat1 r]; rfl
theorem OblH_of {s : RH} : ∀ {r : List Oper} {i : Nat}, (∀ k o, r[k]? = some o → ∀ (V : Nat → Value) (De : List Atom), AllP (fun h => WL (opPostH c l s (D ++ De) (i + k) h (h.map V)) c l.toArray [o] (envOf l (VV s.vals V) (s.deps (i + k)) ++ env) (s.L h (h.map V)) (atsOf s.rs (VV s.vals V) (s.deps (i + k)) ++ (D ++ De))) (phH l s (i + k))) → OblH c l s env D r i
 | [], _, _ => trivial
 | o :: r, i, h => ⟨fun V De _ => h 0 o rfl V De, OblH_of fun k o' hk => by
  have := h (k + 1) o' (by simpa using hk)
  rwa [show i + (k + 1) = i + 1 + k by omega] at this⟩
theorem depX_lt {i k : Nat} (h : ckBack l = true) (hk : k ∈ depX l i) : k < i := by
 unfold depX at hk
 split at hk
 · rename_i o ho
   obtain ⟨e, he, rfl⟩ := List.mem_map.1 hk
   obtain ⟨h1, h2⟩ := List.mem_filter.1 he
   simp only [Bool.and_eq_true] at h2
   have hil : i < l.length := (List.getElem?_eq_some_iff.1 ho).1
   have hb := List.all_eq_true.1 h i (List.mem_range.2 hil)
   rw [ho] at hb
   have := List.all_eq_true.1 hb e h1
   rw [h2.1.1] at this
   exact lt_blt (by simpa using this)
 · cases hk
theorem rgP [ft : Ft c.P] {Q : Exit → Act → World → Prop} {id : Nat} (b : Nat) (offs ix : List Nat) {f : FuncId} {pv' : Value} {L0 L1 Lr : Own} {As : Value → List Atom} {T E1 bytes d1 d2 : Nat} {t1 t2 : TypeId} {p1 p2 : String} {af1 af2 : Array Edge} {prs : List (Nat × Operand)} {xs : List Operand} {ats : Array TypeId} {E : Env} {L' : Own} {efs : List (Nat × Ef)}
 (hc : ∀ u, Fnc c.P f [pv', u] L0 (As u) (fun (_ : Unit) _ => True) (fun _ _ => L1) fun _ _ => []) (hok : FnOk c.P f) (ht : AppTy c.P T E1 1 bytes)
 (hl : (l.drop (l.length - 2), L) = ([⟨some d1, .buildSlice T offs.length prs.toArray, t1, p1, af1, none⟩, ⟨some d2, .call ⟨.value (.func f), xs.toArray, ats⟩, t2, p2, af2, none⟩], L0 ++ Lr))
 (_ : (drK l env fun e => runX ft.fs ft.os ft.rs ([] : List (Nat × KX c.P)) l.toArray (l.take (l.length - 2)) 0 L [] [] e) = some (vs, efs, L', E))
 (hck : (ckDst l (drE l env) && ckBack l && ckSize l c.n && ckH l (xP l L (L1 ++ Lr) vs b offs) && (valP vs (l.take (l.length - 2)) 0).all (·.isSome) && Nat.ble 1 offs.length && Nat.ble offs.length 1000, plP ft.fs l (drE l env) vs (l.take (l.length - 2)) 0, (depX l (l.length - 1)).contains (l.length - 2), evs (envOf l (VV (lkE vs) fun _ => undef) (depX l (l.length - 2)) ++ drE l env) (prs.map (·.2)), partsOf (prs.map (·.2)), lkE vs (l.length - 2), lkE vs (l.length - 1), envX l vs (List.range l.length).reverse ++ drE l env)
  = (true, valP vs (l.take (l.length - 2)) 0, true, some (offs.map fun o => .pointer (some ⟨b, o, none⟩)), prs, none, none, E))
 (hV : ∀ V : Nat → Value, (evs (envOf l (VV (lkE vs) V) (depX l (l.length - 1)) ++ drE l env) xs, (As (V (l.length - 2))).map some) = (some [pv', V (l.length - 2)], ix.map fun i => ((⟨V (l.length - 2), ptrs b offs⟩ : Atom) :: D)[i]?))
 (k : WQ c Q .normal E (L1 ++ Lr) D) : WC c (.region id l.toArray true) Q env L D := by
 simp only [Prod.mk.injEq, Bool.and_eq_true] at hl hck hV
 obtain ⟨hl, rfl⟩ := hl
 obtain ⟨⟨⟨⟨⟨⟨⟨h2, h5⟩, hsz⟩, h4⟩, hall⟩, hn1⟩, hn2⟩, hpl, hdep, hus, hps, hv1, hv2, rfl⟩ := hck
 suffices hw : WC c (.region id l.toArray true) Q (drE l env) (L0 ++ Lr) D from fun a w f => hw a w ⟨f.size, f.dn, fun i v hi => f.at_ i v (drE_sub hi)⟩
 generalize drE l env = env at *
 have hlen : l.length = (l.length - 2) + 2 := by
  have := congrArg List.length hl
  simp at this
  omega
 generalize hm0 : l.length - 2 = m at *
 generalize hm1 : l.length - 1 = m1 at *
 obtain rfl : m1 = m + 1 := by omega
 have g0 : l[m]? = (l.drop m)[0]? := by simp
 have g1 : l[m + 1]? = (l.drop m)[1]? := by simp
 rw [hl] at g0 g1
 simp only [List.getElem?_cons_zero, List.getElem?_cons_succ] at g0 g1
 have hpa := plP_at hpl hall
 have htk : ∀ k, k < m → (l.take m)[k]? = l[k]? := fun k hk => by rw [List.getElem?_take, if_pos hk]
 have hkn : ∀ k, k < m → (dstOf l k).isSome = true → (lkE vs k).isSome = true := fun k hk _ => by
  obtain ⟨d, op, t, p, af, u, _, hu, _⟩ := hpa k l[k] (by rw [htk k hk, List.getElem?_eq_getElem])
  rw [Nat.zero_add] at hu
  rw [hu]; rfl
 refine rgH (xP l (L0 ++ Lr) (L1 ++ Lr) vs b offs) (fun _ => L1 ++ Lr) ft.okM (by
  simp only [rhOk, Bool.and_eq_true]
  exact ⟨⟨⟨⟨ckDeps_X, h2⟩, h5⟩, hsz⟩, h4⟩) rfl (AllP.intro fun hh hm _ => ?_) (OblH_of fun i o ho V De => AllP.intro fun hh hm => ?_) fun V _ => ?_
 · have h1 := (List.mem_filter.1 hm).2
   cases hh with
   | nil => simp at h1
   | cons x y => rfl
 · rw [Nat.zero_add] at hm ⊢
   have hi : i < l.length := (List.getElem?_eq_some_iff.1 ho).1
   have heff : ∀ j, (xP l (L0 ++ Lr) (L1 ++ Lr) vs b offs).effs.contains j = Nat.beq j (m + 1) := fun j => by
    show ([l.length - 1] : List Nat).contains j = _
    rw [hm1]
    rw [Bool.eq_iff_iff]
    simp [Nat.beq_eq]
   by_cases him : i = m + 1
   · subst him
     rw [g1] at ho
     injection ho with ho
     subst ho
     have hn := size_at hsz g1 rfl
     have hh0 : hh = [] := by
      obtain ⟨h1, h3⟩ := List.mem_filter.1 hm
      simp only [Bool.and_eq_true, Bool.or_eq_true, Bool.not_eq_true'] at h3
      rcases h3.1 with h3 | h3
      · rw [heff] at h3; simp at h3
      · simp only [List.mem_cons, List.not_mem_nil, or_false] at h1
        rcases h1 with rfl | rfl
        · rfl
        · simp [hm1] at h3
     subst hh0
     have hin : (⟨V m, ptrs b offs⟩ : Atom) ∈ atsOf (xP l (L0 ++ Lr) (L1 ++ Lr) vs b offs).rs (VV (lkE vs) V) (depX l (m + 1)) := of_at (s := (xP l (L0 ++ Lr) (L1 ++ Lr) vs b offs).rs) (k := m) (by simpa using hdep) (by
      show _ ∈ (bif Nat.beq m (l.length - 2) then _ else _)
      rw [show VV (lkE vs) V m = V m by simp [VV, hv1]]
      simp [hm0])
     refine cfP (hc (V m)) hok (L := L0 ++ Lr) rfl (hV V).1 (fun a ha => ?_) hn fun y v _ => nl (odH (d := d2) (u := v) (by simp [dstOf, g1]) (by simp [lk]) ?_ ?_ ?_ subD_app)
     · have h1 : some a ∈ (As (V m)).map some := List.mem_map.2 ⟨a, ha, rfl⟩
       rw [(hV V).2] at h1
       obtain ⟨q, _, hq⟩ := List.mem_map.1 h1
       rcases List.mem_cons.1 (List.mem_of_getElem? hq) with rfl | h1
       · exact List.mem_append.2 (.inl hin)
       · exact List.mem_append.2 (.inr (List.mem_append.2 (.inl h1)))
     · unfold nextH
       rw [heff]
       simp
     · show (match lkE vs (m + 1) with | some v' => v = v' | none => True)
       rw [hv2]; trivial
     · show SubD (bif Nat.beq (m + 1) (l.length - 2) then _ else _) _
       rw [show Nat.beq (m + 1) (l.length - 2) = false from Bool.not_eq_true _ ▸ fun e => by have := Nat.eq_of_beq_eq_true e; omega]
       exact SubD.nil
   · have hne : Nat.beq i (m + 1) = false := Bool.not_eq_true _ ▸ fun e => him (Nat.eq_of_beq_eq_true e)
     have hdl : ∀ k ∈ depX l i, k < m := fun k hk => by have := depX_lt h5 hk; omega
     have hx : ∀ {L' : Own} {u : Value}, L' = (xP l (L0 ++ Lr) (L1 ++ Lr) vs b offs).L hh (hh.map V) → L' = nextH (xP l (L0 ++ Lr) (L1 ++ Lr) vs b offs) hh (hh.map V) i u := fun e => by
      unfold nextH
      rw [heff, hne]
      exact e
     show WL _ c l.toArray [o] (envOf l (VV (lkE vs) V) (depX l i) ++ env) _ _
     rw [envOf_V hkn hdl]
     by_cases him2 : i = m
     · subst him2
       rw [g0] at ho
       injection ho with ho
       subst ho
       have hn := size_at hsz g0 rfl
       refine bs1 (xs := prs.map (·.2)) hus ht (by simp [List.all_map, Value.oneCell']) (by simpa using hn2) (by cases offs with | nil => simp at hn1 | cons => rfl) (by simp) hn hps fun b' => frS (ptrs b offs) (offs.map fun o => [.pointer (some ⟨b, o, none⟩)]) (flat1 offs) (fun S w _ => ptrs_rd S w _) (by rw [ptrs_len]; have := Nat.le_of_ble_eq_true hn2; omega) (nl (odH (d := d1) (u := .slice (some ⟨b', 0, none⟩) offs.length offs.length) (by simp [dstOf, g0]) (by simp [lk]) (hx rfl) ?_ ?_ ?_))
       · show (match lkE vs i with | some v' => _ = v' | none => True)
         rw [hv1]; trivial
       · show SubD (bif Nat.beq i (l.length - 2) then _ else _) _
         rw [hm0, show Nat.beq i i = true by simp]
         intro t ht
         simp only [cond_true, List.mem_singleton] at ht
         subst ht
         rw [ptrs_len]
         exact List.mem_cons_self ..
       · intro t ht
         exact List.mem_cons_of_mem _ (List.mem_append.2 (.inr ht))
     · have him3 : i < m := by omega
       obtain ⟨d, op, t, p, af, u, rfl, hu, hpv⟩ := hpa i o (by rw [htk i him3]; exact ho)
       rw [Nat.zero_add] at hu hpv
       have hn := size_at hsz ho rfl
       refine pv_ok ft.okF hpv hn (nl (odH (d := d) (u := u) (by simp [dstOf, ho]) (by simp [lk]) (hx rfl) ?_ ?_ subD_app))
       · show (match lkE vs i with | some v' => u = v' | none => True)
         rw [hu]
       · show SubD (bif Nat.beq i (l.length - 2) then _ else _) _
         rw [show Nat.beq i (l.length - 2) = false from Bool.not_eq_true _ ▸ fun e => by have := Nat.eq_of_beq_eq_true e; omega]
         exact SubD.nil
 · intro a w f st dh
   refine k a w ⟨f.size, f.dn, fun i v hi => f.at_ i v ?_⟩ st (dh.sub fun t ht => List.mem_append.2 (.inr ht))
   exact envX_sub h2 hi
end
end
end Go.Eng
namespace Go.Eng
def Opens (P : Program) (T : TypeId) {α : Type} (r : Rep α) : Prop :=
 ∀ (H : Type) (enc : TypeId × Value → H) (w : World) (fuel : Nat) (cs : List Value) (x : DataW H × List MemPlace), DataW.trod enc P w 0 (fun _ => true) true fuel T cs = some x → ∃ a : α, r.rd (fun b => b < w.heap.size) w cs a
theorem opens_int {P : Program} {T : TypeId} (hu : P.underlying T = some (.int .i64)) : Opens P T repInt := by
 intro H enc w fuel cs x h
 obtain ⟨n, rfl, _, hw⟩ := DataW.trod_int hu h
 refine ⟨n, rfl, ?_⟩
 simp [Lit.wf, IntKind.min, IntKind.max, IntKind.signed, IntKind.bits] at hw
 exact ⟨by omega, by omega⟩
theorem opens_byte {P : Program} {T : TypeId} (hu : P.underlying T = some (.int .u8)) : Opens P T repByte := by
 intro H enc w fuel cs x h
 obtain ⟨n, rfl, _, hw⟩ := DataW.trod_int hu h
 simp [Lit.wf, IntKind.min, IntKind.max, IntKind.signed, IntKind.bits] at hw
 refine ⟨UInt8.ofNat n.toNat, ?_, trivial⟩
 show [Value.int .u8 n] = [Value.int .u8 ((UInt8.ofNat n.toNat).toNat : Int)]
 have : ((UInt8.ofNat n.toNat).toNat : Int) = n := by
  have : (UInt8.ofNat n.toNat).toNat = n.toNat := by simp; omega
  rw [this]; omega
 rw [this]
theorem opens_str {P : Program} {T : TypeId} (hu : P.underlying T = some .string) : Opens P T repStr := by
 intro H enc w fuel cs x h
 obtain ⟨s, rfl, _, hs⟩ := DataW.trod_string hu h
 exact ⟨s, rfl, by simpa only [maxLen] using hs⟩
theorem opens_bool {P : Program} {T : TypeId} (hu : P.underlying T = some .bool) : Opens P T repBool := by
 intro H enc w fuel cs x h
 obtain ⟨b, rfl, _⟩ := DataW.trod_bool hu h
 exact ⟨b, rfl, trivial⟩
theorem cells_lies {w : World} {a : Addr} {n : Nat} {cs : List Value} (h : w.cells? 0 a n = some cs) : cs.length = n ∧ ∀ j u, cs[j]? = some u → w.cell? (a.add j) = some u := by
 unfold World.cells? at h
 rw [if_pos (Nat.zero_le _)] at h
 have hl : cs.length = n := by simpa using mapM_some_length h
 refine ⟨hl, fun j u hu => ?_⟩
 have hj : j < n := by rw [← hl]; exact (List.getElem?_eq_some_iff.1 hu).1
 have hc := mapM_some_get h j j (by simp [hj])
 rw [hu] at hc
 exact hc
theorem opens_list {P : Program} {T E : TypeId} {α : Type} {r : Rep α} (hu : P.underlying T = some (.slice E)) (hs : P.cellsOf E = r.size) (h0 : 0 < r.size) (hE : Opens P E r) : Opens P T (@repList α r) := by
 intro H enc w fuel cs x h
 rcases Deep.open_slice hu h with ⟨rfl, _⟩ | ⟨a, len, cap, m, n, D, Pl, rfl, _, hlc, hcm, hm, _, hi⟩
 · exact ⟨[], none, 0, rfl, Nat.le_refl _, by decide, Nat.zero_le _, fun h => absurd rfl h⟩
 · have hm' : len ≤ m := by rw [hm]; split <;> omega
   have key : ∀ i, i < len → ∃ e : α, ∃ cs', w.cells? 0 (a.add (i * P.cellsOf E)) (P.cellsOf E) = some cs' ∧ r.rd (fun b => b < w.heap.size) w cs' e := by
    intro i hlt
    obtain ⟨cs', h1, h2⟩ := hi i (by omega)
    obtain ⟨e, he⟩ := hE H enc w n cs' _ h2
    exact ⟨e, cs', h1, he⟩
   have : ∃ xs : List α, xs.length = len ∧ ∀ i e, xs[i]? = some e → ∃ cs', w.cells? 0 (a.add (i * P.cellsOf E)) (P.cellsOf E) = some cs' ∧ r.rd (fun b => b < w.heap.size) w cs' e := by
    have gen : ∀ k, (∀ i, i < k → ∃ e : α, ∃ cs', w.cells? 0 (a.add (i * P.cellsOf E)) (P.cellsOf E) = some cs' ∧ r.rd (fun b => b < w.heap.size) w cs' e) → ∃ xs : List α, xs.length = k ∧ ∀ i e, xs[i]? = some e → ∃ cs', w.cells? 0 (a.add (i * P.cellsOf E)) (P.cellsOf E) = some cs' ∧ r.rd (fun b => b < w.heap.size) w cs' e := by
     intro k key
     induction k with
     | zero => exact ⟨[], rfl, by simp⟩
     | succ k ih =>
      obtain ⟨xs, h1, h2⟩ := ih fun i hlt => key i (by omega)
      obtain ⟨e, he⟩ := key k (by omega)
      refine ⟨xs ++ [e], by simp [h1], fun i e' hi => ?_⟩
      rw [List.getElem?_append] at hi
      split at hi
      · exact h2 i e' hi
      · rename_i hge
        have : i = k := by
         have := (List.getElem?_eq_some_iff.1 hi).1
         simp at this
         omega
        subst this
        simp [h1] at hi
        subst hi
        exact he
    exact gen len key
   obtain ⟨xs, hxl, hx⟩ := this
   subst hxl
   refine ⟨xs, some a, cap, rfl, hlc, by simpa only [maxLen] using hcm, by simp only [maxLen] at hcm; omega, fun hne => ?_⟩
   have hpos : 0 < xs.length := List.length_pos_iff.2 hne
   obtain ⟨cs', h1, h2⟩ := hx 0 xs[0] (List.getElem?_eq_getElem hpos)
   obtain ⟨hl1, hl2⟩ := cells_lies h1
   have hc0 := hl2 0 cs'[0] (List.getElem?_eq_getElem (by omega))
   have hsp := World.cell?_spot hc0
   obtain ⟨b, o, spot⟩ := a
   have hspot : spot = none := by simpa [Addr.add] using hsp
   subst hspot
   have hb : b < w.heap.size := by
    unfold World.cell? at hc0
    simp only [Addr.add] at hc0
    split at hc0
    · rename_i hh
      exact lt_of_heap (by simpa using hh)
    · cases hc0
   refine ⟨b, o, rfl, hb, fun i e he => ?_⟩
   obtain ⟨cs2, g1, g2⟩ := hx i e he
   refine ⟨cs2, g2, fun j u hu => ?_⟩
   have := (cells_lies g1).2 j u hu
   rw [hs, Addr.add_mid, Addr.add_mid] at this
   exact this
end Go.Eng
