/- Part 9 of the proof of auditOrder_holds: DutT, Eng10, Eng11, Eng19, Eng20. Every text below begins with what it shows. -/
import Derived.ProofKit
import Derived.Deep.Slices
import Derived.OpenShut
import Derived.Carry
import Derived.Laws.Small
import Derived.Test.YtmpoffijcfaalaaGreatAu8

/- The data of the program, as plain structures, and how it lies in cells. No program. -/

namespace Go.YtmpoffijcfaalaaGreat
open Go.Eng

structure TPlan where
  fNumber : Int
  fFrom : Int
  fTo : Int
  fLo : ByteArray
  fHi : ByteArray
  fClient : Int
  fSeq : Int
  deriving DecidableEq, Inhabited
@[reducible] def cPlan (x : TPlan) : List Value := [.int .i64 x.fNumber, .int .i64 x.fFrom, .int .i64 x.fTo, .string x.fLo, .string x.fHi, .int .i64 x.fClient, .int .i64 x.fSeq]
def TPlan.wf (x : TPlan) : Prop := InI x.fNumber ∧ InI x.fFrom ∧ InI x.fTo ∧ x.fLo.size ≤ 9223372036854775807 ∧ x.fHi.size ≤ 9223372036854775807 ∧ InI x.fClient ∧ InI x.fSeq
@[reducible] def sPlan : Shape TPlan where
  H := Unit
  size := 7
  cells x h := cPlan x
  sub x h := []
  wf := TPlan.wf
  len _ _ := rfl
  one := by
    intro S w x h ht u hu
    simp only [cPlan, List.mem_cons, List.not_mem_nil, or_false] at hu
    rcases hu with rfl | rfl | rfl | rfl | rfl | rfl | rfl <;> first | rfl
@[reducible] instance rPlan : Rep TPlan := Rep.ofShape sPlan
structure TOp where
  fKind : Int
  fKey : ByteArray
  fOther : ByteArray
  fN : Int
  fLo : Int
  fHi : Int
  deriving DecidableEq, Inhabited
@[reducible] def cOp (x : TOp) : List Value := [.int .i64 x.fKind, .string x.fKey, .string x.fOther, .int .i64 x.fN, .int .i64 x.fLo, .int .i64 x.fHi]
def TOp.wf (x : TOp) : Prop := InI x.fKind ∧ x.fKey.size ≤ 9223372036854775807 ∧ x.fOther.size ≤ 9223372036854775807 ∧ InI x.fN ∧ InI x.fLo ∧ InI x.fHi
@[reducible] def sOp : Shape TOp where
  H := Unit
  size := 6
  cells x h := cOp x
  sub x h := []
  wf := TOp.wf
  len _ _ := rfl
  one := by
    intro S w x h ht u hu
    simp only [cOp, List.mem_cons, List.not_mem_nil, or_false] at hu
    rcases hu with rfl | rfl | rfl | rfl | rfl | rfl <;> first | rfl
@[reducible] instance rOp : Rep TOp := Rep.ofShape sOp
structure TSpan where
  fLo : Int
  fHi : Int
  deriving DecidableEq, Inhabited
@[reducible] def cSpan (x : TSpan) : List Value := [.int .i64 x.fLo, .int .i64 x.fHi]
def TSpan.wf (x : TSpan) : Prop := InI x.fLo ∧ InI x.fHi
@[reducible] def sSpan : Shape TSpan where
  H := Unit
  size := 2
  cells x h := cSpan x
  sub x h := []
  wf := TSpan.wf
  len _ _ := rfl
  one := by
    intro S w x h ht u hu
    simp only [cSpan, List.mem_cons, List.not_mem_nil, or_false] at hu
    rcases hu with rfl | rfl <;> first | rfl
@[reducible] instance rSpan : Rep TSpan := Rep.ofShape sSpan
structure TLock where
  fClient : Int
  fSeq : Int
  fHome : Int
  fN : Int
  deriving DecidableEq, Inhabited
@[reducible] def cLock (x : TLock) : List Value := [.int .i64 x.fClient, .int .i64 x.fSeq, .int .i64 x.fHome, .int .i64 x.fN]
def TLock.wf (x : TLock) : Prop := InI x.fClient ∧ InI x.fSeq ∧ InI x.fHome ∧ InI x.fN
@[reducible] def sLock : Shape TLock where
  H := Unit
  size := 4
  cells x h := cLock x
  sub x h := []
  wf := TLock.wf
  len _ _ := rfl
  one := by
    intro S w x h ht u hu
    simp only [cLock, List.mem_cons, List.not_mem_nil, or_false] at hu
    rcases hu with rfl | rfl | rfl | rfl <;> first | rfl
@[reducible] instance rLock : Rep TLock := Rep.ofShape sLock
structure THolder where
  fNode : Int
  fLease : Int
  fUp : Int
  fDown : Int
  deriving DecidableEq, Inhabited
@[reducible] def cHolder (x : THolder) : List Value := [.int .i64 x.fNode, .int .i64 x.fLease, .int .i64 x.fUp, .int .i64 x.fDown]
def THolder.wf (x : THolder) : Prop := InI x.fNode ∧ InI x.fLease ∧ InI x.fUp ∧ InI x.fDown
@[reducible] def sHolder : Shape THolder where
  H := Unit
  size := 4
  cells x h := cHolder x
  sub x h := []
  wf := THolder.wf
  len _ _ := rfl
  one := by
    intro S w x h ht u hu
    simp only [cHolder, List.mem_cons, List.not_mem_nil, or_false] at hu
    rcases hu with rfl | rfl | rfl | rfl <;> first | rfl
@[reducible] instance rHolder : Rep THolder := Rep.ofShape sHolder
structure TAnswer where
  fErr : Int
  fValue : Int
  fLeast : Int
  fMost : Int
  deriving DecidableEq, Inhabited
@[reducible] def cAnswer (x : TAnswer) : List Value := [.int .i64 x.fErr, .int .i64 x.fValue, .int .i64 x.fLeast, .int .i64 x.fMost]
def TAnswer.wf (x : TAnswer) : Prop := InI x.fErr ∧ InI x.fValue ∧ InI x.fLeast ∧ InI x.fMost
@[reducible] def sAnswer : Shape TAnswer where
  H := Unit
  size := 4
  cells x h := cAnswer x
  sub x h := []
  wf := TAnswer.wf
  len _ _ := rfl
  one := by
    intro S w x h ht u hu
    simp only [cAnswer, List.mem_cons, List.not_mem_nil, or_false] at hu
    rcases hu with rfl | rfl | rfl | rfl <;> first | rfl
@[reducible] instance rAnswer : Rep TAnswer := Rep.ofShape sAnswer
structure TEnd where
  fClient : Int
  fSeq : Int
  deriving DecidableEq, Inhabited
@[reducible] def cEnd (x : TEnd) : List Value := [.int .i64 x.fClient, .int .i64 x.fSeq]
def TEnd.wf (x : TEnd) : Prop := InI x.fClient ∧ InI x.fSeq
@[reducible] def sEnd : Shape TEnd where
  H := Unit
  size := 2
  cells x h := cEnd x
  sub x h := []
  wf := TEnd.wf
  len _ _ := rfl
  one := by
    intro S w x h ht u hu
    simp only [cEnd, List.mem_cons, List.not_mem_nil, or_false] at hu
    rcases hu with rfl | rfl <;> first | rfl
@[reducible] instance rEnd : Rep TEnd := Rep.ofShape sEnd
structure TMark where
  fClient : Int
  fSeq : Int
  fOpen : Bool
  fAnswer : TAnswer
  deriving DecidableEq, Inhabited
@[reducible] def cMark (x : TMark) : List Value := [.int .i64 x.fClient, .int .i64 x.fSeq, .bool x.fOpen, .int .i64 x.fAnswer.fErr, .int .i64 x.fAnswer.fValue, .int .i64 x.fAnswer.fLeast, .int .i64 x.fAnswer.fMost]
def TMark.wf (x : TMark) : Prop := InI x.fClient ∧ InI x.fSeq ∧ True ∧ x.fAnswer.wf
@[reducible] def sMark : Shape TMark where
  H := Unit
  size := 7
  cells x h := cMark x
  sub x h := []
  wf := TMark.wf
  len _ _ := rfl
  one := by
    intro S w x h ht u hu
    simp only [cMark, List.mem_cons, List.not_mem_nil, or_false] at hu
    rcases hu with rfl | rfl | rfl | rfl | rfl | rfl | rfl <;> first | rfl
@[reducible] instance rMark : Rep TMark := Rep.ofShape sMark
structure TDeal where
  fClient : Int
  fSeq : Int
  fKey : ByteArray
  fOther : ByteArray
  fN : Int
  fMine : Int
  fTheirs : Int
  fFate : Int
  deriving DecidableEq, Inhabited
@[reducible] def cDeal (x : TDeal) : List Value := [.int .i64 x.fClient, .int .i64 x.fSeq, .string x.fKey, .string x.fOther, .int .i64 x.fN, .int .i64 x.fMine, .int .i64 x.fTheirs, .int .i64 x.fFate]
def TDeal.wf (x : TDeal) : Prop := InI x.fClient ∧ InI x.fSeq ∧ x.fKey.size ≤ 9223372036854775807 ∧ x.fOther.size ≤ 9223372036854775807 ∧ InI x.fN ∧ InI x.fMine ∧ InI x.fTheirs ∧ InI x.fFate
@[reducible] def sDeal : Shape TDeal where
  H := Unit
  size := 8
  cells x h := cDeal x
  sub x h := []
  wf := TDeal.wf
  len _ _ := rfl
  one := by
    intro S w x h ht u hu
    simp only [cDeal, List.mem_cons, List.not_mem_nil, or_false] at hu
    rcases hu with rfl | rfl | rfl | rfl | rfl | rfl | rfl | rfl <;> first | rfl
@[reducible] instance rDeal : Rep TDeal := Rep.ofShape sDeal
structure TWait where
  fKind : Int
  fClient : Int
  fSeq : Int
  fNode : Int
  fHome : Int
  fOp : TOp
  deriving DecidableEq, Inhabited
@[reducible] def cWait (x : TWait) : List Value := [.int .i64 x.fKind, .int .i64 x.fClient, .int .i64 x.fSeq, .int .i64 x.fNode, .int .i64 x.fHome, .int .i64 x.fOp.fKind, .string x.fOp.fKey, .string x.fOp.fOther, .int .i64 x.fOp.fN, .int .i64 x.fOp.fLo, .int .i64 x.fOp.fHi]
def TWait.wf (x : TWait) : Prop := InI x.fKind ∧ InI x.fClient ∧ InI x.fSeq ∧ InI x.fNode ∧ InI x.fHome ∧ x.fOp.wf
@[reducible] def sWait : Shape TWait where
  H := Unit
  size := 11
  cells x h := cWait x
  sub x h := []
  wf := TWait.wf
  len _ _ := rfl
  one := by
    intro S w x h ht u hu
    simp only [cWait, List.mem_cons, List.not_mem_nil, or_false] at hu
    rcases hu with rfl | rfl | rfl | rfl | rfl | rfl | rfl | rfl | rfl | rfl | rfl <;> first | rfl
@[reducible] instance rWait : Rep TWait := Rep.ofShape sWait
structure TPlace where
  fGroup : Int
  fFrom : ByteArray
  fEpoch : Int
  deriving DecidableEq, Inhabited
@[reducible] def cPlace (x : TPlace) : List Value := [.int .i64 x.fGroup, .string x.fFrom, .int .i64 x.fEpoch]
def TPlace.wf (x : TPlace) : Prop := InI x.fGroup ∧ x.fFrom.size ≤ 9223372036854775807 ∧ InI x.fEpoch
@[reducible] def sPlace : Shape TPlace where
  H := Unit
  size := 3
  cells x h := cPlace x
  sub x h := []
  wf := TPlace.wf
  len _ _ := rfl
  one := by
    intro S w x h ht u hu
    simp only [cPlace, List.mem_cons, List.not_mem_nil, or_false] at hu
    rcases hu with rfl | rfl | rfl <;> first | rfl
@[reducible] instance rPlace : Rep TPlace := Rep.ofShape sPlace
theorem pPlace_1 {x : TPlace} : ∀ (S : Nat → Prop) (w : World) (cs : List Value), rPlace.rd S w cs x → repStr.rd S w ((cs.drop 1).take 1) x.fFrom := by
  rintro S w cs ⟨h, rfl, hs, hw⟩
  exact ⟨rfl, hw.2.1⟩
structure TRight where
  fGroup : Int
  fKey : ByteArray
  fLease : Int
  fNet : Int
  deriving DecidableEq, Inhabited
@[reducible] def cRight (x : TRight) : List Value := [.int .i64 x.fGroup, .string x.fKey, .int .i64 x.fLease, .int .i64 x.fNet]
def TRight.wf (x : TRight) : Prop := InI x.fGroup ∧ x.fKey.size ≤ 9223372036854775807 ∧ InI x.fLease ∧ InI x.fNet
@[reducible] def sRight : Shape TRight where
  H := Unit
  size := 4
  cells x h := cRight x
  sub x h := []
  wf := TRight.wf
  len _ _ := rfl
  one := by
    intro S w x h ht u hu
    simp only [cRight, List.mem_cons, List.not_mem_nil, or_false] at hu
    rcases hu with rfl | rfl | rfl | rfl <;> first | rfl
@[reducible] instance rRight : Rep TRight := Rep.ofShape sRight
structure TAge where
  fClient : Int
  fSeq : Int
  fTicks : Int
  deriving DecidableEq, Inhabited
@[reducible] def cAge (x : TAge) : List Value := [.int .i64 x.fClient, .int .i64 x.fSeq, .int .i64 x.fTicks]
def TAge.wf (x : TAge) : Prop := InI x.fClient ∧ InI x.fSeq ∧ InI x.fTicks
@[reducible] def sAge : Shape TAge where
  H := Unit
  size := 3
  cells x h := cAge x
  sub x h := []
  wf := TAge.wf
  len _ _ := rfl
  one := by
    intro S w x h ht u hu
    simp only [cAge, List.mem_cons, List.not_mem_nil, or_false] at hu
    rcases hu with rfl | rfl | rfl <;> first | rfl
@[reducible] instance rAge : Rep TAge := Rep.ofShape sAge
structure TTotal where
  fKey : ByteArray
  fSpan : TSpan
  fValue : Int
  deriving DecidableEq, Inhabited
@[reducible] def cTotal (x : TTotal) : List Value := [.string x.fKey, .int .i64 x.fSpan.fLo, .int .i64 x.fSpan.fHi, .int .i64 x.fValue]
def TTotal.wf (x : TTotal) : Prop := x.fKey.size ≤ 9223372036854775807 ∧ x.fSpan.wf ∧ InI x.fValue
@[reducible] def sTotal : Shape TTotal where
  H := Unit
  size := 4
  cells x h := cTotal x
  sub x h := []
  wf := TTotal.wf
  len _ _ := rfl
  one := by
    intro S w x h ht u hu
    simp only [cTotal, List.mem_cons, List.not_mem_nil, or_false] at hu
    rcases hu with rfl | rfl | rfl | rfl <;> first | rfl
@[reducible] instance rTotal : Rep TTotal := Rep.ofShape sTotal
structure TAccount where
  fKey : ByteArray
  fSpan : TSpan
  fBase : Int
  fRound : Int
  fHolders : List THolder
  fLock : TLock
  deriving DecidableEq, Inhabited
@[reducible] def cAccount (x : TAccount) (k0 : Value) : List Value := [.string x.fKey, .int .i64 x.fSpan.fLo, .int .i64 x.fSpan.fHi, .int .i64 x.fBase, .int .i64 x.fRound, k0, .int .i64 x.fLock.fClient, .int .i64 x.fLock.fSeq, .int .i64 x.fLock.fHome, .int .i64 x.fLock.fN]
def TAccount.wf (x : TAccount) : Prop := x.fKey.size ≤ 9223372036854775807 ∧ x.fSpan.wf ∧ InI x.fBase ∧ InI x.fRound ∧ True ∧ x.fLock.wf
@[reducible] def sAccount : Shape TAccount where
  H := Value
  size := 10
  cells x h := cAccount x h
  sub x h := [⟨h, x.fHolders⟩]
  wf := TAccount.wf
  len _ _ := rfl
  one := by
    intro S w x h ht u hu
    have o0 := oneCell_of_list (ht _ (List.mem_cons_self ..))
    simp only [cAccount, List.mem_cons, List.not_mem_nil, or_false] at hu
    rcases hu with rfl | rfl | rfl | rfl | rfl | rfl | rfl | rfl | rfl | rfl <;> first | rfl | exact o0
@[reducible] instance rAccount : Rep TAccount := Rep.ofShape sAccount
theorem pAccount_0 {x : TAccount} : ∀ (S : Nat → Prop) (w : World) (cs : List Value), rAccount.rd S w cs x → repStr.rd S w ((cs.drop 0).take 1) x.fKey := by
  rintro S w cs ⟨h, rfl, hs, hw⟩
  exact ⟨rfl, hw.1⟩
structure TChart where
  fIndex : Int
  fPlaces : List TPlace
  fNext : Int
  fLast : Int
  fPlan : TPlan
  fMarks : List TMark
  deriving DecidableEq, Inhabited
@[reducible] def cChart (x : TChart) (k0 k1 : Value) : List Value := [.int .i64 x.fIndex, k0, .int .i64 x.fNext, .int .i64 x.fLast, .int .i64 x.fPlan.fNumber, .int .i64 x.fPlan.fFrom, .int .i64 x.fPlan.fTo, .string x.fPlan.fLo, .string x.fPlan.fHi, .int .i64 x.fPlan.fClient, .int .i64 x.fPlan.fSeq, k1]
def TChart.wf (x : TChart) : Prop := InI x.fIndex ∧ True ∧ InI x.fNext ∧ InI x.fLast ∧ x.fPlan.wf ∧ True
@[reducible] def sChart : Shape TChart where
  H := Value × Value
  size := 12
  cells x h := cChart x h.1 h.2
  sub x h := [⟨h.1, x.fPlaces⟩, ⟨h.2, x.fMarks⟩]
  wf := TChart.wf
  len _ _ := rfl
  one := by
    intro S w x h ht u hu
    have o0 := oneCell_of_list (ht _ (List.mem_cons_self ..))
    have o1 := oneCell_of_list (ht _ (List.mem_cons_of_mem _ (List.mem_cons_self ..)))
    simp only [cChart, List.mem_cons, List.not_mem_nil, or_false] at hu
    rcases hu with rfl | rfl | rfl | rfl | rfl | rfl | rfl | rfl | rfl | rfl | rfl | rfl <;> first | rfl | exact o0 | exact o1
@[reducible] instance rChart : Rep TChart := Rep.ofShape sChart
theorem pChart_1 {x : TChart} : ∀ (S : Nat → Prop) (w : World) (cs : List Value), rChart.rd S w cs x → (@repList TPlace rPlace).rd S w ((cs.drop 1).take 1) x.fPlaces := by
  rintro S w cs ⟨h, rfl, hs, hw⟩
  exact list_rd (hs _ (List.mem_cons_self ..))
theorem pChart_2 {x : TChart} : ∀ (S : Nat → Prop) (w : World) (cs : List Value), rChart.rd S w cs x → repInt.rd S w ((cs.drop 2).take 1) x.fNext := by
  rintro S w cs ⟨h, rfl, hs, hw⟩
  exact ⟨rfl, hw.2.2.1⟩
theorem pChart_3 {x : TChart} : ∀ (S : Nat → Prop) (w : World) (cs : List Value), rChart.rd S w cs x → repInt.rd S w ((cs.drop 3).take 1) x.fLast := by
  rintro S w cs ⟨h, rfl, hs, hw⟩
  exact ⟨rfl, hw.2.2.2.1⟩
theorem pChart_4 {x : TChart} : ∀ (S : Nat → Prop) (w : World) (cs : List Value), rChart.rd S w cs x → rPlan.rd S w ((cs.drop 4).take 7) x.fPlan := by
  rintro S w cs ⟨h, rfl, hs, hw⟩
  exact ⟨(), rfl, by simp, hw.2.2.2.2.1⟩
structure TState where
  fGroup : Int
  fIndex : Int
  fOwns : Bool
  fLo : ByteArray
  fHi : ByteArray
  fEpoch : Int
  fAccounts : List TAccount
  fMarks : List TMark
  fWaits : List TWait
  fDeals : List TDeal
  fEnds : List TEnd
  fSeal : TPlan
  fOut : TPlan
  fImage : List UInt8
  fAbsorbed : Int
  fRefused : Int
  fUndone : Int
  deriving DecidableEq, Inhabited
@[reducible] def cState (x : TState) (k0 k1 k2 k3 k4 k5 : Value) : List Value := [.int .i64 x.fGroup, .int .i64 x.fIndex, .bool x.fOwns, .string x.fLo, .string x.fHi, .int .i64 x.fEpoch, k0, k1, k2, k3, k4, .int .i64 x.fSeal.fNumber, .int .i64 x.fSeal.fFrom, .int .i64 x.fSeal.fTo, .string x.fSeal.fLo, .string x.fSeal.fHi, .int .i64 x.fSeal.fClient, .int .i64 x.fSeal.fSeq, .int .i64 x.fOut.fNumber, .int .i64 x.fOut.fFrom, .int .i64 x.fOut.fTo, .string x.fOut.fLo, .string x.fOut.fHi, .int .i64 x.fOut.fClient, .int .i64 x.fOut.fSeq, k5, .int .i64 x.fAbsorbed, .int .i64 x.fRefused, .int .i64 x.fUndone]
def TState.wf (x : TState) : Prop := InI x.fGroup ∧ InI x.fIndex ∧ True ∧ x.fLo.size ≤ 9223372036854775807 ∧ x.fHi.size ≤ 9223372036854775807 ∧ InI x.fEpoch ∧ True ∧ True ∧ True ∧ True ∧ True ∧ x.fSeal.wf ∧ x.fOut.wf ∧ True ∧ InI x.fAbsorbed ∧ InI x.fRefused ∧ InI x.fUndone
@[reducible] def sState : Shape TState where
  H := Value × Value × Value × Value × Value × Value
  size := 29
  cells x h := cState x h.1 h.2.1 h.2.2.1 h.2.2.2.1 h.2.2.2.2.1 h.2.2.2.2.2
  sub x h := [⟨h.1, x.fAccounts⟩, ⟨h.2.1, x.fMarks⟩, ⟨h.2.2.1, x.fWaits⟩, ⟨h.2.2.2.1, x.fDeals⟩, ⟨h.2.2.2.2.1, x.fEnds⟩, ⟨h.2.2.2.2.2, x.fImage⟩]
  wf := TState.wf
  len _ _ := rfl
  one := by
    intro S w x h ht u hu
    have o0 := oneCell_of_list (ht _ (List.mem_cons_self ..))
    have o1 := oneCell_of_list (ht _ (List.mem_cons_of_mem _ (List.mem_cons_self ..)))
    have o2 := oneCell_of_list (ht _ (List.mem_cons_of_mem _ (List.mem_cons_of_mem _ (List.mem_cons_self ..))))
    have o3 := oneCell_of_list (ht _ (List.mem_cons_of_mem _ (List.mem_cons_of_mem _ (List.mem_cons_of_mem _ (List.mem_cons_self ..)))))
    have o4 := oneCell_of_list (ht _ (List.mem_cons_of_mem _ (List.mem_cons_of_mem _ (List.mem_cons_of_mem _ (List.mem_cons_of_mem _ (List.mem_cons_self ..))))))
    have o5 := oneCell_of_list (ht _ (List.mem_cons_of_mem _ (List.mem_cons_of_mem _ (List.mem_cons_of_mem _ (List.mem_cons_of_mem _ (List.mem_cons_of_mem _ (List.mem_cons_self ..)))))))
    simp only [cState, List.mem_cons, List.not_mem_nil, or_false] at hu
    rcases hu with rfl | rfl | rfl | rfl | rfl | rfl | rfl | rfl | rfl | rfl | rfl | rfl | rfl | rfl | rfl | rfl | rfl | rfl | rfl | rfl | rfl | rfl | rfl | rfl | rfl | rfl | rfl | rfl | rfl <;> first | rfl | exact o0 | exact o1 | exact o2 | exact o3 | exact o4 | exact o5
@[reducible] instance rState : Rep TState := Rep.ofShape sState
theorem pState_1 {x : TState} : ∀ (S : Nat → Prop) (w : World) (cs : List Value), rState.rd S w cs x → repInt.rd S w ((cs.drop 1).take 1) x.fIndex := by
  rintro S w cs ⟨h, rfl, hs, hw⟩
  exact ⟨rfl, hw.2.1⟩
structure TScene where
  fNode : Int
  fNodes : Int
  fChart : TChart
  fStates : List TState
  fRights : List TRight
  fAges : List TAge
  deriving DecidableEq, Inhabited
@[reducible] def cScene (x : TScene) (k0 k1 k2 k3 k4 : Value) : List Value := [.int .i64 x.fNode, .int .i64 x.fNodes, .int .i64 x.fChart.fIndex, k0, .int .i64 x.fChart.fNext, .int .i64 x.fChart.fLast, .int .i64 x.fChart.fPlan.fNumber, .int .i64 x.fChart.fPlan.fFrom, .int .i64 x.fChart.fPlan.fTo, .string x.fChart.fPlan.fLo, .string x.fChart.fPlan.fHi, .int .i64 x.fChart.fPlan.fClient, .int .i64 x.fChart.fPlan.fSeq, k1, k2, k3, k4]
def TScene.wf (x : TScene) : Prop := InI x.fNode ∧ InI x.fNodes ∧ x.fChart.wf ∧ True ∧ True ∧ True
@[reducible] def sScene : Shape TScene where
  H := Value × Value × Value × Value × Value
  size := 17
  cells x h := cScene x h.1 h.2.1 h.2.2.1 h.2.2.2.1 h.2.2.2.2
  sub x h := [⟨h.1, x.fChart.fPlaces⟩, ⟨h.2.1, x.fChart.fMarks⟩, ⟨h.2.2.1, x.fStates⟩, ⟨h.2.2.2.1, x.fRights⟩, ⟨h.2.2.2.2, x.fAges⟩]
  wf := TScene.wf
  len _ _ := rfl
  one := by
    intro S w x h ht u hu
    have o0 := oneCell_of_list (ht _ (List.mem_cons_self ..))
    have o1 := oneCell_of_list (ht _ (List.mem_cons_of_mem _ (List.mem_cons_self ..)))
    have o2 := oneCell_of_list (ht _ (List.mem_cons_of_mem _ (List.mem_cons_of_mem _ (List.mem_cons_self ..))))
    have o3 := oneCell_of_list (ht _ (List.mem_cons_of_mem _ (List.mem_cons_of_mem _ (List.mem_cons_of_mem _ (List.mem_cons_self ..)))))
    have o4 := oneCell_of_list (ht _ (List.mem_cons_of_mem _ (List.mem_cons_of_mem _ (List.mem_cons_of_mem _ (List.mem_cons_of_mem _ (List.mem_cons_self ..))))))
    simp only [cScene, List.mem_cons, List.not_mem_nil, or_false] at hu
    rcases hu with rfl | rfl | rfl | rfl | rfl | rfl | rfl | rfl | rfl | rfl | rfl | rfl | rfl | rfl | rfl | rfl | rfl <;> first | rfl | exact o0 | exact o1 | exact o2 | exact o3 | exact o4
@[reducible] instance rScene : Rep TScene := Rep.ofShape sScene
theorem pScene_2 {x : TScene} : ∀ (S : Nat → Prop) (w : World) (cs : List Value), rScene.rd S w cs x → rChart.rd S w ((cs.drop 2).take 12) x.fChart := by
  rintro S w cs ⟨h, rfl, hs, hw⟩
  exact ⟨⟨h.1, h.2.1⟩, rfl, fun t ht => hs t (by simp only [List.mem_cons, List.not_mem_nil, or_false] at ht ⊢; rcases ht with rfl | rfl <;> simp), hw.2.2.1⟩
theorem pScene_3 {x : TScene} : ∀ (S : Nat → Prop) (w : World) (cs : List Value), rScene.rd S w cs x → (@repList TState rState).rd S w ((cs.drop 14).take 1) x.fStates := by
  rintro S w cs ⟨h, rfl, hs, hw⟩
  exact list_rd (hs _ (List.mem_cons_of_mem _ (List.mem_cons_of_mem _ (List.mem_cons_self ..))))
structure TCommand where
  fKind : Int
  fClient : Int
  fSeq : Int
  fEpoch : Int
  fNode : Int
  fHome : Int
  fKey : ByteArray
  fLease : Int
  fRound : Int
  fNet : Int
  fYes : Bool
  fOp : TOp
  fPlan : TPlan
  fImage : List UInt8
  deriving DecidableEq, Inhabited
end Go.YtmpoffijcfaalaaGreat

/- The arguments of a law, opened: what the statement's reading says of them, as facts on data. Generic: no program. -/

namespace Go.Eng

def Opens (P : Program) (T : TypeId) {α : Type} (r : Rep α) : Prop :=
  ∀ (H : Type) (enc : TypeId × Value → H) (w : World) (fuel : Nat) (cs : List Value) (x : DataW H × List MemPlace), DataW.trod enc P w 0 (fun _ => true) true fuel T cs = some x → ∃ a : α, r.rd (fun b => b < w.heap.size) w cs a

theorem opens_int {P : Program} {T : TypeId} (hu : P.underlying T = some (.int .i64)) : Opens P T repInt := by
  intro H enc w fuel cs x h
  obtain ⟨n, rfl, _, hw⟩ := DataW.trod_int hu h
  refine ⟨n, rfl, ?_⟩
  simp [Lit.wf, IntKind.min, IntKind.max, IntKind.signed, IntKind.bits] at hw
  exact ⟨by omega, by omega⟩
theorem opens_byte {P : Program} {T : TypeId} (hu : P.underlying T = some (.int .u8)) : Opens P T repByte := by
  intro H enc w fuel cs x h
  obtain ⟨n, rfl, _, hw⟩ := DataW.trod_int hu h
  simp [Lit.wf, IntKind.min, IntKind.max, IntKind.signed, IntKind.bits] at hw
  refine ⟨UInt8.ofNat n.toNat, ?_, trivial⟩
  show [Value.int .u8 n] = [Value.int .u8 ((UInt8.ofNat n.toNat).toNat : Int)]
  have : ((UInt8.ofNat n.toNat).toNat : Int) = n := by
    have : (UInt8.ofNat n.toNat).toNat = n.toNat := by simp; omega
    rw [this]; omega
  rw [this]
theorem opens_str {P : Program} {T : TypeId} (hu : P.underlying T = some .string) : Opens P T repStr := by
  intro H enc w fuel cs x h
  obtain ⟨s, rfl, _, hs⟩ := DataW.trod_string hu h
  exact ⟨s, rfl, by simpa only [maxLen] using hs⟩
theorem opens_bool {P : Program} {T : TypeId} (hu : P.underlying T = some .bool) : Opens P T repBool := by
  intro H enc w fuel cs x h
  obtain ⟨b, rfl, _⟩ := DataW.trod_bool hu h
  exact ⟨b, rfl, trivial⟩

theorem cells_lies {w : World} {a : Addr} {n : Nat} {cs : List Value} (h : w.cells? 0 a n = some cs) : cs.length = n ∧ ∀ j u, cs[j]? = some u → w.cell? (a.add j) = some u := by
  unfold World.cells? at h
  rw [if_pos (Nat.zero_le _)] at h
  have hl : cs.length = n := by simpa using mapM_some_length h
  refine ⟨hl, fun j u hu => ?_⟩
  have hj : j < n := by rw [← hl]; exact (List.getElem?_eq_some_iff.1 hu).1
  have hc := mapM_some_get h j j (by simp [hj])
  rw [hu] at hc
  exact hc
theorem opens_list {P : Program} {T E : TypeId} {α : Type} {r : Rep α} (hu : P.underlying T = some (.slice E)) (hs : P.cellsOf E = r.size) (h0 : 0 < r.size) (hE : Opens P E r) : Opens P T (@repList α r) := by
  intro H enc w fuel cs x h
  rcases Deep.open_slice hu h with ⟨rfl, _⟩ | ⟨a, len, cap, m, n, D, Pl, rfl, _, hlc, hcm, hm, _, hi⟩
  · exact ⟨[], none, 0, rfl, Nat.le_refl _, by decide, Nat.zero_le _, fun h => absurd rfl h⟩
  · have hm' : len ≤ m := by rw [hm]; split <;> omega
    have key : ∀ i, i < len → ∃ e : α, ∃ cs', w.cells? 0 (a.add (i * P.cellsOf E)) (P.cellsOf E) = some cs' ∧ r.rd (fun b => b < w.heap.size) w cs' e := by
      intro i hlt
      obtain ⟨cs', h1, h2⟩ := hi i (by omega)
      obtain ⟨e, he⟩ := hE H enc w n cs' _ h2
      exact ⟨e, cs', h1, he⟩
    have : ∃ xs : List α, xs.length = len ∧ ∀ i e, xs[i]? = some e → ∃ cs', w.cells? 0 (a.add (i * P.cellsOf E)) (P.cellsOf E) = some cs' ∧ r.rd (fun b => b < w.heap.size) w cs' e := by
      have gen : ∀ k, (∀ i, i < k → ∃ e : α, ∃ cs', w.cells? 0 (a.add (i * P.cellsOf E)) (P.cellsOf E) = some cs' ∧ r.rd (fun b => b < w.heap.size) w cs' e) → ∃ xs : List α, xs.length = k ∧ ∀ i e, xs[i]? = some e → ∃ cs', w.cells? 0 (a.add (i * P.cellsOf E)) (P.cellsOf E) = some cs' ∧ r.rd (fun b => b < w.heap.size) w cs' e := by
       intro k key
       induction k with
       | zero => exact ⟨[], rfl, by simp⟩
       | succ k ih =>
         obtain ⟨xs, h1, h2⟩ := ih fun i hlt => key i (by omega)
         obtain ⟨e, he⟩ := key k (by omega)
         refine ⟨xs ++ [e], by simp [h1], fun i e' hi => ?_⟩
         rw [List.getElem?_append] at hi
         split at hi
         · exact h2 i e' hi
         · rename_i hge
           have : i = k := by
             have := (List.getElem?_eq_some_iff.1 hi).1
             simp at this
             omega
           subst this
           simp [h1] at hi
           subst hi
           exact he
      exact gen len key
    obtain ⟨xs, hxl, hx⟩ := this
    subst hxl
    refine ⟨xs, some a, cap, rfl, hlc, by simpa only [maxLen] using hcm, by simp only [maxLen] at hcm; omega, fun hne => ?_⟩
    have hpos : 0 < xs.length := List.length_pos_iff.2 hne
    obtain ⟨cs', h1, h2⟩ := hx 0 xs[0] (List.getElem?_eq_getElem hpos)
    obtain ⟨hl1, hl2⟩ := cells_lies h1
    have hc0 := hl2 0 cs'[0] (List.getElem?_eq_getElem (by omega))
    have hsp := World.cell?_spot hc0
    obtain ⟨b, o, spot⟩ := a
    have hspot : spot = none := by simpa [Addr.add] using hsp
    subst hspot
    have hb : b < w.heap.size := by
      unfold World.cell? at hc0
      simp only [Addr.add] at hc0
      split at hc0
      · rename_i hh
        exact lt_of_heap (by simpa using hh)
      · cases hc0
    refine ⟨b, o, rfl, hb, fun i e he => ?_⟩
    obtain ⟨cs2, g1, g2⟩ := hx i e he
    refine ⟨cs2, g2, fun j u hu => ?_⟩
    have := (cells_lies g1).2 j u hu
    rw [hs, Addr.add_mid, Addr.add_mid] at this
    exact this
end Go.Eng

/- What every law's row needs ahead of the call and behind it: its arguments opened, and read again as they were. Generic: no program. -/

namespace Go.Eng
open Go.ChangeShapes Go.WideShapes Go.RowKit

theorem struct_len {P : Program} {H : Type} {enc : TypeId × Value → H} {w : World} {fuel : Nat} {T : TypeId} {fs : Array Field} {cs : List Value} {x : DataW H × List MemPlace}
    (hu : P.underlying T = some (.struct fs)) (h : DataW.trod enc P w 0 (fun _ => true) true fuel T cs = some x) : cs.length = P.cellsOf T := by
  obtain ⟨xs, m, _, _, hl, _, _⟩ := DataW.trod_struct hu h
  exact hl
theorem field_opens {P : Program} {H : Type} {enc : TypeId × Value → H} {w : World} {fuel : Nat} {T : TypeId} {fs : Array Field} {cs : List Value} {x : DataW H × List MemPlace}
    (hu : P.underlying T = some (.struct fs)) (h : DataW.trod enc P w 0 (fun _ => true) true fuel T cs = some x) {α : Type} {r : Rep α} (i o n : Nat) {U : TypeId}
    (hf : fs[i]?.map (fun f => (f.type, f.offset)) = some (U, o)) (hn : P.cellsOf U = n) (hU : Opens P U r) : ∃ a : α, r.rd (fun b => b < w.heap.size) w ((cs.drop o).take n) a := by
  obtain ⟨xs, m, _, _, _, hlen, hx⟩ := DataW.trod_struct hu h
  cases hfi : fs[i]? with
  | none => rw [hfi] at hf; cases hf
  | some f =>
    rw [hfi] at hf
    simp only [Option.map_some, Option.some.injEq, Prod.mk.injEq] at hf
    obtain ⟨rfl, rfl⟩ := hf
    subst hn
    have hi : i < xs.length := by rw [hlen]; exact (Array.getElem?_eq_some_iff.1 hfi).1
    have := hx i f hfi
    rw [List.getElem?_eq_getElem hi] at this
    exact hU H enc w m _ _ this

theorem arg_list {P : Program} {H : Type} {enc : TypeId × Value → H} {w : World} {T E : TypeId} {α : Type} {r : Rep α} {v : Value} {d : DataW H} {ps : List MemPlace} {rc : Reach} {base : Nat}
    (hu : P.underlying T = some (.slice E)) (hO : Opens P T (@repList α r)) (hv : Value.okWide P w rc base T v) (h : DataW.Trod enc P w 0 (fun _ => true) true T v d ps) :
    ∃ l : List α, Atom.holds (@Atom.mk (List α) (@repList α r) v l) (Sf [] w) w := by
  obtain ⟨fuel, hf⟩ := h
  obtain ⟨A, n, c, rfl⟩ := okWide_slice hu hv
  obtain ⟨l, hl⟩ := hO H enc w fuel _ _ hf
  refine ⟨l, rfl, ?_⟩
  exact Rep.keep (self := @repList α r) hl (fun b hb => ⟨hb, by simp⟩) (fun _ _ => rfl)

theorem list_each {α : Type} [r : Rep α] {S : Nat → Prop} {w : World} {v : Value} {l : List α} (h : Atom.holds ⟨v, l⟩ S w) : ∀ e ∈ l, ∃ cs, r.rd S w cs e := by
  intro e he
  obtain ⟨_, A, cc, _, _, _, _, h4⟩ := h
  obtain ⟨b, o, _, _, hi⟩ := h4 (List.ne_nil_of_mem he)
  obtain ⟨i, hi2, rfl⟩ := List.getElem_of_mem he
  obtain ⟨cs, hc, _⟩ := hi i _ (List.getElem?_eq_getElem hi2)
  exact ⟨cs, hc⟩

theorem trodAll_below {H : Type} {enc : TypeId × Value → H} {P : Program} (hl : laidOutB P = true) {W W' : World} (hB : Below W.heap.size W W') :
    ∀ (ts : List TypeId) (vs : List Value) (ds : List (DataW H)) (ps : List MemPlace), ts.all (fun t => P.readableRec t && decide (t < P.types.size)) = true →
      DataW.TrodAll enc P W 0 (fun _ => true) true ts vs ds ps → (∀ x ∈ ps, x.block < W.heap.size) → DataW.TrodAll enc P W' 0 (fun b => decide (b < W.heap.size)) true ts vs ds ps
  | [], vs, ds, ps, _, h, _ => by
    obtain ⟨rfl, rfl, rfl⟩ := trodAll_nil h
    exact trodAll_mk0
  | t :: ts, vs, ds, ps, hr, h, hlt => by
    obtain ⟨v, vs', d, ds', p, q, rfl, rfl, rfl, h1, h2⟩ := trodAll_cons h
    simp only [List.all_cons, Bool.and_eq_true, decide_eq_true_eq] at hr
    exact trodAll_cons_mk (Below.trod hl hr.1.1 hr.1.2 h1 hB (fun x hx => hlt x (List.mem_append_left _ hx))) (trodAll_below hl hB ts vs' ds' q hr.2 h2 (fun x hx => hlt x (List.mem_append_right _ hx)))

theorem post_true {H : Type} {enc : TypeId × Value → H} {P : Program} {f : Func} {s : ChangeSpec} {W W' : World} {args : Array Value} {ds : List (DataW H)} {before : List MemPlace} {T : TypeId} (hl : laidOutB P = true)
    (hp : f.params.toList.all (fun t => P.readableRec t && decide (t < P.types.size)) = true) (hsv : s.vars = []) (hr : f.resultTypes = #[T]) (hT : P.underlying T = some .bool)
    (hfn : s.fn H ds = { results := [.lit (.bool true)], args := ds }) (hW : DataW.Whole enc P f.params.toList s.vars false W args.toList ds [] before) (hB : Below W.heap.size W W') :
    s.post enc P f false true false false W args (.bool true) W' := by
  have hlt : ∀ x ∈ before, x.block < W.heap.size := fun x hx => by simpa using hW.lt x hx
  have hW' := hW
  obtain ⟨p, q, hA, hV, rfl, hfz, hnd⟩ := hW'
  rw [hsv] at hV
  obtain ⟨_, rfl⟩ := trodVars_none hV
  refine ⟨ds, [], _, [], p, [], hW, ?_, ?_, ?_, hB.frame _, fun h => by cases h⟩
  · rw [List.append_nil, hfn, hr]
    exact trodAll_mk1 (shut_bool hT true)
  · rw [List.append_nil, hfn]
    exact trodAll_below hl hB _ _ _ _ hp hA (fun x hx => hlt x (List.mem_append_left _ hx))
  · rw [List.append_nil, hfn, hsv]
    rfl

/-- A function that only reads and answers true: its row's postcondition. -/
theorem FnV.post {H : Type} {enc : TypeId × Value → H} {P : Program} {f : FuncId} {fn : Func} {s : ChangeSpec} {W : World} {args : List Value} {As : List Atom} {ds : List (DataW H)} {before : List MemPlace} {T : TypeId} (hl : laidOutB P = true)
    (hp : fn.params.toList.all (fun t => P.readableRec t && decide (t < P.types.size)) = true) (hsv : s.vars = []) (hr : fn.resultTypes = #[T]) (hT : P.underlying T = some .bool)
    (hfn : s.fn H ds = { results := [.lit (.bool true)], args := ds }) (hW : DataW.Whole enc P fn.params.toList s.vars false W args ds [] before)
    (h : FnV P f args As (.bool true)) (hA : ∀ t ∈ As, t.holds (Sf [] W) W) :
    Calls P f args.toArray W fun e W' => ∃ v, e = .returned v ∧ s.post enc P fn false true false false W args.toArray v W' := by
  refine Ret.mono (h [] W (by simp [Own.bs, bsOf]) (by simp) (by simp) (by simpa [Own.bs, bsOf] using hA)) ?_
  rintro v w' ⟨hst, _, rfl, _⟩
  exact post_true hl hp hsv hr hT hfn (by simpa using hW) hst.below
end Go.Eng

/- A field of a value; what the elements of a list are. Generic: no program. -/

namespace Go.Eng
section
variable {c : Cx} {ops : Array Oper} {J : Cx → Array Oper → List Oper → Env → Own → List Atom → Prop} [iJ : IsJ J] {env : Env} {L : Own} {D : List Atom} {rest : List Oper} {d : Nat} {v : Value} {t : TypeId} {p : String} {af : Array Edge}
end
theorem list_wf {α : Type} {s : Shape α} {S : Nat → Prop} {w : World} {v : Value} {xs : List α} (h : Atom.holds (@Atom.mk (List α) (@repList α (Rep.ofShape s)) v xs) S w) : ∀ x ∈ xs, s.wf x := by
  intro x hx
  obtain ⟨ha, A, cc, hsv, _, _, h3, h4⟩ := h
  obtain ⟨b, o, _, _, hi⟩ := h4 (List.ne_nil_of_mem hx)
  obtain ⟨i, hi2, rfl⟩ := List.getElem_of_mem hx
  obtain ⟨cs, hc, _⟩ := hi i _ (List.getElem?_eq_getElem hi2)
  obtain ⟨_, _, _, hw⟩ := hc
  exact hw
theorem getD_mem {α : Type} [Inhabited α] {l : List α} {i : Nat} (h : i < l.length) : l.getD i default ∈ l := by
  have : l.getD i default = l[i] := by simp [List.getD, List.getElem?_eq_getElem h]
  rw [this]
  exact List.getElem_mem h
end Go.Eng

/- Structs that a law is handed, opened field by field. Generic: no program. -/

namespace Go.Eng
open Go.ChangeShapes Go.WideShapes Go.RowKit
theorem cut {α : Type} (cs : List α) (o n m : Nat) (h : o + n = m) : cs.drop o = (cs.drop o).take n ++ cs.drop m := by
  subst h
  rw [← List.drop_drop, List.take_append_drop]
theorem list_atom {α : Type} [r : Rep α] {S : Nat → Prop} {w : World} {cs : List Value} {l : List α} (h : (@repList α r).rd S w cs l) : ∃ k, cs = [k] ∧ Atom.holds ⟨k, l⟩ S w := by
  obtain ⟨A, cc, hcs, hr⟩ := id h
  refine ⟨_, hcs, rfl, ?_⟩
  subst hcs
  exact ⟨A, cc, rfl, hr⟩
theorem arg_struct {P : Program} {H : Type} {enc : TypeId × Value → H} {w : World} {T : TypeId} {fs : Array Field} {α : Type} {r : Rep α} {v : Value} {d : DataW H} {ps : List MemPlace} {rc : Reach} {base : Nat}
    (hu : P.underlying T = some (.struct fs)) (hO : Opens P T r) (hv : Value.okWide P w rc base T v) (h : DataW.Trod enc P w 0 (fun _ => true) true T v d ps) :
    ∃ (cs : List Value) (x : α), v = .agg cs.toArray ∧ r.rd (Sf [] w) w cs x := by
  obtain ⟨fuel, hf⟩ := h
  obtain ⟨cs, rfl, _⟩ := okWide_struct hu hv
  obtain ⟨x, hx⟩ := hO H enc w fuel _ _ hf
  exact ⟨cs.toList, x, by simp, Rep.keep (self := r) hx (fun b hb => ⟨hb, by simp⟩) (fun _ _ => rfl)⟩
end Go.Eng
