/- Part 11 of the proof of auditOrder_holds: DutS, DutW1, DutW2, DutQ. Every text below begins with what it shows. -/
import Derived.Test.YtmpoffijcfaalaaGreatAu10

/- What the checks tell, as plain functions. No program. -/

namespace Go.YtmpoffijcfaalaaGreat
open Go.Eng

@[reducible] def errF (b : Bool) : Int := if b = true then 0 else 21
theorem errF_ok (b : Bool) : decide (errF b = 0) = b := by cases b <;> rfl
def far : Int := 4611686018427387904
def okGroup (g : Int) : Bool := decide (g ≥ 1) && decide (g < 8)
def okWhose (c q : Int) : Bool := decide (c ≥ 1) && decide (c ≤ 8) && decide (q ≥ 1) && decide (q ≤ far)
def okKey (k : ByteArray) : Bool := decide ((k.size : Int) ≥ 1) && decide ((k.size : Int) ≤ 16)
def leB (x y : ByteArray) : Bool := ltB x y || decide (x = y)
def isNil (k : ByteArray) : Bool := decide (k = ByteArray.empty)
def within (lo hi key : ByteArray) : Bool := (ltB lo key || decide (lo = key)) && (isNil hi || ltB key hi)
def spansP (lo hi : ByteArray) : Bool := decide ((lo.size : Int) ≤ 16) && decide ((hi.size : Int) ≤ 16) && (isNil hi || ltB lo hi)

def hasP (s : TSpan) (v : Int) : Bool := decide (s.fLo ≤ v) && decide (v ≤ s.fHi)
def ownsP (s : TState) (key : ByteArray) : Bool := s.fOwns && within s.fLo s.fHi key
def sealedP (s : TState) (key : ByteArray) : Bool := (!decide (s.fSeal.fNumber = 0)) && within s.fSeal.fLo s.fSeal.fHi key
def plannedP (p : TPlan) : Bool := decide (p.fNumber ≥ 1) && decide (p.fNumber ≤ far) && okGroup p.fFrom && okGroup p.fTo && (!decide (p.fFrom = p.fTo)) && spansP p.fLo p.fHi
def keeperP (l : TLock) : Bool := decide (l.fClient ≥ 1) && decide (l.fSeq ≥ 1) && decide (l.fHome ≥ 1) && decide (l.fHome < 8)
def fateP (m t : Int) : Int := if decide (m = 2) || decide (t = 2) then 2 else if decide (m = 1) && decide (t = 1) then 1 else 0
def lockedP (a : TAccount) : Bool := !decide (a.fLock.fClient = 0)
def endP (l : List TPlace) (i : Int) : ByteArray := if decide (i < 0) || decide (i ≥ (l.length : Int) - 1) then ByteArray.empty else (l.getD (i + 1).toNat default).fFrom
def lmayP (r : TRight) : Bool := okGroup r.fGroup && decide ((r.fKey.size : Int) ≥ 1) && decide ((r.fKey.size : Int) ≤ 16) && decide (r.fLease ≥ 1)
/-- The last place below n of which p holds; 0: none. -/
def lastI : Nat → (Nat → Bool) → Nat
  | 0, _ => 0
  | n + 1, p => if p n = true then n else lastI n p
/-- The first place below n of which p holds. -/
def firstI (n : Nat) (p : Nat → Bool) : Option Nat := (List.range n).find? p
theorem firstI_some {n j : Nat} {p : Nat → Bool} (hj : j < n) (h0 : ∀ k, k < j → p k = false) (h : p j = true) : firstI n p = some j :=
  List.find?_range_eq_some.2 ⟨h, List.mem_range.2 hj, fun k hk => by simp [h0 k hk]⟩
theorem firstI_none {n : Nat} {p : Nat → Bool} (h : ∀ k, k < n → p k = false) : firstI n p = none :=
  List.find?_range_eq_none.2 fun k hk => by simp [h k hk]
theorem not_f {b : Bool} (h : b = false) : (!b) = true := by rw [h]; rfl
theorem not_t {b : Bool} (h : b = true) : (!b) = false := by rw [h]; rfl
def prevI (f : Nat → Int) : Nat → Int
  | 0 => 0
  | i + 1 => f i
def findP (l : List TPlace) (key : ByteArray) : Nat := lastI l.length (fun j => !ltB key (l.getD j default).fFrom)
def ofP (l : List TPlace) (gr : Int) : Option Nat := firstI l.length (fun j => decide ((l.getD j default).fGroup = gr))
@[reducible] def ofV (o : Option Nat) : Value := .tuple #[.int .i64 ((o.getD 0 : Nat) : Int), .bool o.isSome]
def countsP (l : List Int) : Bool := allI l.length (fun j => !(decide (l.getD j default < 0) || decide (l.getD j default > far)))
def markP (p : Int) (m : TMark) : Bool := decide (m.fClient ≤ p) || decide (m.fClient > 8) || decide (m.fSeq < 0) || decide (m.fSeq > far) || (m.fOpen && (decide (m.fSeq = 0) || !decide (m.fAnswer = ⟨0, 0, 0, 0⟩)))
def marksP (l : List TMark) : Bool := allI l.length (fun j => !markP (prevI (fun k => (l.getD k default).fClient) j) (l.getD j default))
def endsP (l : List TEnd) : Bool := allI l.length (fun j => !(decide ((l.getD j default).fClient ≤ prevI (fun k => (l.getD k default).fClient) j) || !okWhose (l.getD j default).fClient (l.getD j default).fSeq))

theorem not_dectrue {p : Prop} [Decidable p] (h : ¬ p) : (!decide p) = true := by simp [h]
theorem not_decfalse {p : Prop} [Decidable p] (h : p) : (!decide p) = false := by simp [h]
def dmay1 (d : TDeal) : Bool := !okWhose d.fClient d.fSeq || decide (d.fN < 1) || decide (d.fKey = d.fOther) || decide (d.fMine < 0) || decide (d.fMine > 2) || decide (d.fTheirs < 0) || decide (d.fTheirs > 2)
def dmay2 (d : TDeal) : Bool := decide ((d.fKey.size : Int) < 1) || decide ((d.fKey.size : Int) > 16) || decide ((d.fOther.size : Int) < 1) || decide ((d.fOther.size : Int) > 16)
def dmayP (d : TDeal) : Bool := if dmay1 d = true then false else if dmay2 d = true then false else decide (d.fFate = fateP d.fMine d.fTheirs) || (decide (fateP d.fMine d.fTheirs = 0) && decide (d.fFate = 2))
def ownedP (s : TState) : Bool := if (!s.fOwns) = true then (isNil s.fLo && isNil s.fHi && decide ((s.fAccounts.length : Int) = 0) && decide ((s.fWaits.length : Int) = 0) && decide (s.fSeal = ⟨0, 0, 0, ByteArray.empty, ByteArray.empty, 0, 0⟩)) else decide (s.fEpoch ≥ 1) && spansP s.fLo s.fHi
def waitP0 (s : TState) (w : TWait) : Bool := !okWhose w.fClient w.fSeq || !okKey w.fOp.fKey || !ownsP s w.fOp.fKey || sealedP s w.fOp.fKey
def waitOp (w : TWait) : Bool := decide (w.fNode ≥ 1) && decide (w.fNode ≤ 5) && decide (w.fHome = 0) && decide (w.fOp.fKind ≥ 1) && decide (w.fOp.fKind ≤ 5) && (decide (w.fOp.fKind > 2) || decide (w.fOp.fN ≥ 1))
def waitPrep (w : TWait) : Bool := decide (w.fNode = 0) && okGroup w.fHome && (!decide (w.fOp.fN = 0)) && decide (w.fOp = ⟨0, w.fOp.fKey, ByteArray.empty, w.fOp.fN, 0, 0⟩)
def waitP (s : TState) (w : TWait) : Bool := if waitP0 s w = true then false else if decide (w.fKind = 1) = true then waitOp w else if decide (w.fKind = 2) = true then waitPrep w else false
def holdP (p : Int) (h : THolder) : Bool := decide (h.fNode ≤ p) || decide (h.fNode > 5) || decide (h.fLease < 1) || decide (h.fUp < 0) || decide (h.fDown < 0)
def holdersP (l : List THolder) : Bool := allI l.length (fun j => !holdP (prevI (fun k => (l.getD k default).fNode) j) (l.getD j default))

def placeO (l : List TDeal) (c q : Int) : Option Nat := firstI l.length (fun j => decide ((l.getD j default).fClient = c) && decide ((l.getD j default).fSeq = q))
def placeI : Option Nat → Int
  | some j => (j : Int)
  | none => -1
/-- The greatest of f below n. -/
def maxI (f : Nat → Int) : Nat → Int
  | 0 => 0
  | n + 1 => max (maxI f n) (f n)
def epochP (l : List TPlace) : Int := maxI (fun j => (l.getD j default).fEpoch) l.length

theorem wrapu (v : Int) : IntKind.u64.wrap v = v % 18446744073709551616 := by simp [IntKind.wrap, IntKind.signed, IntKind.bits]
theorem wrapi (v : Int) : IntKind.i64.wrap v = (v + 9223372036854775808) % 18446744073709551616 - 9223372036854775808 := by
  simp only [IntKind.wrap, IntKind.signed, IntKind.bits]
  simp
  omega
def sg (x : Int) : Int := if x < 0 then -1 else 0
theorem sg_in (x : Int) : sg x = -1 ∧ x < 0 ∨ sg x = 0 ∧ 0 ≤ x := by unfold sg; split <;> omega
theorem shr63 {x : Int} (h : InI x) : x.fdiv (2 ^ min (63 : Int).toNat IntKind.i64.bits) = sg x := by
  have e : (2 : Int) ^ min (63 : Int).toNat IntKind.i64.bits = 9223372036854775808 := by decide
  rw [e, Int.fdiv_eq_ediv_of_nonneg _ (by decide)]
  obtain ⟨h1, h2⟩ := h
  have := sg_in x
  omega
def allIn (l : List Int) : Prop := ∀ x ∈ l, InI x
theorem getD_InI {l : List Int} (h : allIn l) {i : Nat} (hi : i < l.length) : InI (l.getD i default) := by
  have : l.getD i default = l[i] := by simp [List.getD, List.getElem?_eq_getElem hi]
  rw [this]
  exact h _ (List.getElem_mem hi)
theorem sum_take {l : List Int} {i : Nat} (hi : i < l.length) : (l.take (i + 1)).sum = (l.take i).sum + l.getD i default := by
  have e : l.getD i default = l[i] := by simp [List.getD, List.getElem?_eq_getElem hi]
  rw [e, List.take_add_one, List.getElem?_eq_getElem hi]
  rw [List.sum_append_int]
  simp
def sumOk (s : Int) : Bool := decide (-9223372036854775808 ≤ s) && decide (s ≤ 9223372036854775807)
def sumI (s : Int) : Int := if sumOk s = true then s else 0
def sumE (s : Int) : Int := if sumOk s = true then 0 else 10
@[reducible] def sumV (s : Int) : Value := .tuple #[.int .i64 (sumI s), .int .i64 (sumE s)]
theorem sum_step {S hi lo x : Int} (h1 : hi = S / 18446744073709551616 % 18446744073709551616) (h2 : lo = S % 18446744073709551616) (hx : InI x) :
    (hi + sg x % 18446744073709551616 + (lo + x % 18446744073709551616 + 0) / 18446744073709551616) % 18446744073709551616 = (S + x) / 18446744073709551616 % 18446744073709551616 ∧
    (lo + x % 18446744073709551616 + 0) % 18446744073709551616 = (S + x) % 18446744073709551616 := by
  obtain ⟨h3, h4⟩ := hx
  have := sg_in x
  omega
theorem sum_end {S hi lo : Int} (h1 : hi = S / 18446744073709551616 % 18446744073709551616) (h2 : lo = S % 18446744073709551616) (hb : -85070591730234615856620279821087277056 ≤ S ∧ S ≤ 85070591730234615856620279821087277056) :
    (hi = sg (IntKind.i64.wrap lo) % 18446744073709551616 ↔ sumOk S = true) ∧ (sumOk S = true → IntKind.i64.wrap lo = S) := by
  rw [wrapi]
  have := sg_in ((lo + 9223372036854775808) % 18446744073709551616 - 9223372036854775808)
  simp only [sumOk, Bool.and_eq_true, decide_eq_true_eq]
  omega
theorem add_ov {x y : Int} (hx : InI x) (hy : InI y) : ((decide (x ≥ 0) && decide (y ≥ 0) && decide (IntKind.i64.wrap (x + y) < 0)) || (decide (x < 0) && decide (y < 0) && decide (IntKind.i64.wrap (x + y) ≥ 0))) = !sumOk (x + y) ∧ (sumOk (x + y) = true → IntKind.i64.wrap (x + y) = x + y) := by
  rw [wrapi]
  obtain ⟨a1, a2⟩ := hx
  obtain ⟨b1, b2⟩ := hy
  constructor
  · rw [Bool.eq_iff_iff]
    simp only [sumOk, Bool.or_eq_true, Bool.and_eq_true, decide_eq_true_eq, Bool.not_eq_true', Bool.and_eq_false_iff, decide_eq_false_iff_not]
    omega
  · simp only [sumOk, Bool.and_eq_true, decide_eq_true_eq]
    omega
def fitsP (a : TAccount) (l : TLock) : Bool := decide (sumE (a.fBase + l.fN) = 0) && hasP a.fSpan (sumI (a.fBase + l.fN))
def upsS (a : TAccount) : Int := a.fBase + (a.fHolders.map (·.fUp)).sum
def downsS (a : TAccount) : Int := a.fBase - (a.fHolders.map (·.fDown)).sum
@[reducible] def lentV (a : TAccount) : Value := .tuple #[.int .i64 (sumI (upsS a)), .int .i64 (sumI (downsS a)), .bool (decide (sumE (upsS a) = 0) && decide (sumE (downsS a) = 0))]
def acc1 (a : TAccount) : Bool := decide ((a.fKey.size : Int) < 1) || decide ((a.fKey.size : Int) > 16) || !hasP a.fSpan a.fBase || decide (a.fRound < 0) || !holdersP a.fHolders
def acc2 (a : TAccount) : Bool := !(decide (sumE (upsS a) = 0) && decide (sumE (downsS a) = 0)) || decide (sumI (upsS a) > a.fSpan.fHi) || decide (sumI (downsS a) < a.fSpan.fLo)
def accP (a : TAccount) : Bool := if acc1 a = true then false else if acc2 a = true then false else if decide (a.fLock.fClient = 0) = true then decide (a.fLock = ⟨0, 0, 0, 0⟩) else keeperP a.fLock && decide ((a.fHolders.length : Int) = 0) && fitsP a a.fLock
def aplainP (a : TAccount) : Bool := accP a && decide (a.fSpan = ⟨0, 0⟩) && decide (a.fBase = 0) && decide ((a.fHolders.length : Int) = 0) && decide (a.fRound = 0) && !lockedP a
def orderP (x y : TRight) : Int := if (!decide (x.fGroup = y.fGroup)) = true then (if decide (x.fGroup < y.fGroup) = true then -1 else 1) else cmpB x.fKey y.fKey
def ledgerj (l : List TRight) (j : Nat) : Bool := !lmayP (l.getD j default) || (decide ((j : Int) > 0) && decide (orderP (l.getD ((j : Int) - 1).toNat default) (l.getD j default) ≥ 0))
def ledgerP (l : List TRight) : Bool := allI l.length (fun j => !ledgerj l j)
theorem wrapi_in (v : Int) : InI (IntKind.i64.wrap v) := by
  rw [wrapi]
  constructor <;> omega

theorem sumI_in (s : Int) : InI (sumI s) := by
  unfold sumI
  split
  · rename_i h
    simp only [sumOk, Bool.and_eq_true, decide_eq_true_eq] at h
    exact h
  · exact ⟨by decide, by decide⟩
def accsj (s : TState) (j : Nat) : Bool := !decide (errF (accP (s.fAccounts.getD j default)) = 0) || aplainP (s.fAccounts.getD j default) || !ownsP s (s.fAccounts.getD j default).fKey || (decide ((j : Int) > 0) && leB (s.fAccounts.getD j default).fKey (s.fAccounts.getD ((j : Int) - 1).toNat default).fKey)
def accsP (s : TState) : Bool := if decide ((s.fAccounts.length : Int) > 12) = true then false else allI s.fAccounts.length (fun j => !accsj s j)
def dealsj (l : List TDeal) (j : Nat) : Bool := !dmayP (l.getD j default) || !decide (placeI (placeO l (l.getD j default).fClient (l.getD j default).fSeq) = (j : Int))
def dealsP (l : List TDeal) : Bool := if decide ((l.length : Int) > 4) = true then false else allI l.length (fun j => !dealsj l j)
/-- Has the group g stood ahead of place i? -/
def seenB (l : List TPlace) : Nat → Nat → Bool
  | 0, _ => false
  | i + 1, g => seenB l i g || decide ((l.getD i default).fGroup = (g : Int))
def seenC (l : List TPlace) (i : Nat) : List Value := (List.range 8).map (fun g => .bool (seenB l i g))
theorem seen_get {l : List TPlace} {i : Nat} {g : Int} (h0 : 0 ≤ g) (h1 : g < 8) : (seenC l i)[0 + g.toNat * 1]? = some (.bool (seenB l i g.toNat)) := by
  have : 0 + g.toNat * 1 < 8 := by omega
  unfold seenC
  rw [List.getElem?_map, List.getElem?_range this]
  simp
theorem seen_len (l : List TPlace) (i : Nat) : (seenC l i).length = 8 := by simp [seenC]
theorem seen_set {l : List TPlace} {i : Nat} (h0 : 0 ≤ (l.getD i default).fGroup) (h1 : (l.getD i default).fGroup < 8) : (seenC l i).set (0 + (l.getD i default).fGroup.toNat * 1) (.bool true) = seenC l (i + 1) := by
  unfold seenC
  refine List.ext_getElem? fun n => ?_
  rw [List.getElem?_set]
  by_cases hn : n < 8
  · rw [List.getElem?_map, List.getElem?_map, List.getElem?_range hn]
    simp only [List.length_map, List.length_range, Option.map_some]
    split
    · rename_i e
      rw [if_pos (by omega)]
      have : decide ((l.getD i default).fGroup = (n : Int)) = true := decide_eq_true (by omega)
      simp only [seenB, this, Bool.or_true]
    · rename_i e
      have : decide ((l.getD i default).fGroup = (n : Int)) = false := decide_eq_false (by omega)
      simp only [seenB, this, Bool.or_false]
  · rw [List.getElem?_eq_none (by simp; omega), List.getElem?_eq_none (by simp; omega), if_neg (by omega)]
def rpl1 (l : List TPlace) : Bool := decide ((l.length : Int) < 1) || !isNil (l.getD 0 default).fFrom
def rplj (l : List TPlace) (j : Nat) : Bool := !okGroup (l.getD j default).fGroup || seenB l j (l.getD j default).fGroup.toNat || decide ((l.getD j default).fEpoch < 1) || decide ((l.getD j default).fEpoch > far) || decide (((l.getD j default).fFrom.size : Int) > 16) || (decide ((j : Int) > 0) && leB (l.getD j default).fFrom (l.getD ((j : Int) - 1).toNat default).fFrom)
def rplacesP (l : List TPlace) : Bool := if rpl1 l = true then false else allI l.length (fun j => !rplj l j)
theorem lastI_lt : ∀ {n : Nat} {p : Nat → Bool}, 0 < n → lastI n p < n
  | n + 1, p, _ => by
    unfold lastI
    split
    · omega
    · cases n with
      | zero => simp [lastI]
      | succ n => have := lastI_lt (n := n + 1) (p := p) (Nat.succ_pos n); omega
theorem findP_lt {l : List TPlace} {k : ByteArray} (h : 0 < l.length) : findP l k < l.length := lastI_lt h
theorem firstI_lt {n j : Nat} {p : Nat → Bool} (h : firstI n p = some j) : j < n := List.mem_range.1 (List.find?_range_eq_some.1 h).2.1
theorem ofP_lt {l : List TPlace} {g : Int} (h : 0 < l.length) : (ofP l g).getD 0 < l.length := by
  unfold ofP
  cases e : firstI l.length (fun j => decide ((l.getD j default).fGroup = g)) with
  | none => exact h
  | some j => exact firstI_lt e
def split1 (c : TChart) : Bool := (ofP c.fPlaces c.fPlan.fTo).isSome || !decide (c.fPlan.fTo = c.fNext - 1) || decide ((c.fPlaces.length : Int) ≥ 7) || isNil c.fPlan.fLo || decide ((c.fPlan.fLo.size : Int) > 16)
def split2 (c : TChart) : Bool := decide (c.fPlan.fFrom = (c.fPlaces.getD (findP c.fPlaces c.fPlan.fLo) default).fGroup) && (!decide (c.fPlan.fLo = (c.fPlaces.getD (findP c.fPlaces c.fPlan.fLo) default).fFrom)) && decide (c.fPlan.fHi = endP c.fPlaces (findP c.fPlaces c.fPlan.fLo))
def splitsP (c : TChart) : Bool := if split1 c = true then false else split2 c
def nxt (c : TChart) : Int := (((ofP c.fPlaces c.fPlan.fTo).getD 0 : Nat) : Int) + 1
def merge1 (c : TChart) : Bool := !(ofP c.fPlaces c.fPlan.fTo).isSome || decide (nxt c ≥ (c.fPlaces.length : Int))
def merge2 (c : TChart) : Bool := decide (c.fPlan.fFrom = (c.fPlaces.getD (nxt c).toNat default).fGroup) && decide (c.fPlan.fLo = (c.fPlaces.getD (nxt c).toNat default).fFrom) && decide (c.fPlan.fHi = endP c.fPlaces (nxt c))
def mergesP (c : TChart) : Bool := if merge1 c = true then false else merge2 c
def plan1 (c : TChart) : Bool := decide (c.fIndex < 0) || decide (c.fIndex > far) || decide (c.fLast < 0) || decide (c.fLast > far) || decide (c.fNext < 2) || decide (c.fNext > 8)
def plan2 (c : TChart) : Bool := !decide (errF (rplacesP c.fPlaces) = 0) || !decide (errF (marksP c.fMarks) = 0)
def plan3 (c : TChart) : Bool := decide (placeI (firstI c.fPlaces.length (fun j => decide ((c.fPlaces.getD j default).fGroup ≥ c.fNext))) ≥ 0)
def plan4 (c : TChart) : Bool := decide (c.fPlan = ⟨0, 0, 0, ByteArray.empty, ByteArray.empty, 0, 0⟩)
def plan5 (c : TChart) : Bool := decide (c.fPlan.fNumber = c.fLast) && (!decide (c.fPlan.fNumber = 0)) && okWhose c.fPlan.fClient c.fPlan.fSeq && decide (epochP c.fPlaces < far) && (splitsP c || mergesP c)
def planP (c : TChart) : Bool := if plan1 c = true then false else if plan2 c = true then false else if plan3 c = true then false else if plan4 c = true then true else plan5 c
end Go.YtmpoffijcfaalaaGreat

/- Walks of small functions, written by specs2.py. -/

namespace Go.Proofs.YtmpoffijcfaalaaGreat
open Go.Eng Go.YtmpoffijcfaalaaGreat
set_option maxHeartbeats 1000000

theorem sgroup_c (g : Int) (h_g : InI g) : FnV Tryz.prog 169 [.int .i64 g] [] (.bool (okGroup g)) := by
 refine Fnc.proof Tryz.func169 G 9 G G fun X w => ?_
 obtain ⟨h_g1, h_g2⟩ := id h_g
 refine sq<|rg<|asg G G<|nl<|nx<|sq<|rg<|mv G G<|geI G G G<|mv G G ?_
 apply jo [] trivial
 ·
  intro K8
  refine spA (i := 5) G (fun h5 => ?_) (fun h5 => ?_)
  ·
   have p5 := of_decide_eq_true h5
   exact gY G G G<|mv G G<|gY G G G<|ltI G G G<|pkT G G G<|jA K8 h5 trivial Sr
  ·
   exact gS (g := [_, _]) G<|pkF G G G<|jA0 K8 h5 trivial Sr
 refine asg G G<|nl<|nx<|rt ?_
 exact fR1 () G G (by rfl) G Sn

theorem rgroup_c (g : Int) (h_g : InI g) : FnV Tryz.prog 243 [.int .i64 g] [] (.bool (okGroup g)) := by
 refine Fnc.proof Tryz.func243 G 9 G G fun X w => ?_
 obtain ⟨h_g1, h_g2⟩ := id h_g
 refine sq<|rg<|asg G G<|nl<|nx<|sq<|rg<|mv G G<|geI G G G<|mv G G ?_
 apply jo [] trivial
 ·
  intro K8
  refine spA (i := 5) G (fun h5 => ?_) (fun h5 => ?_)
  ·
   have p5 := of_decide_eq_true h5
   exact gY G G G<|mv G G<|gY G G G<|ltI G G G<|pkT G G G<|jA K8 h5 trivial Sr
  ·
   exact gS (g := [_, _]) G<|pkF G G G<|jA0 K8 h5 trivial Sr
 refine asg G G<|nl<|nx<|rt ?_
 exact fR1 () G G (by rfl) G Sn

theorem lgroup_c (g : Int) (h_g : InI g) : FnV Tryz.prog 98 [.int .i64 g] [] (.bool (okGroup g)) := by
 refine Fnc.proof Tryz.func98 G 9 G G fun X w => ?_
 obtain ⟨h_g1, h_g2⟩ := id h_g
 refine sq<|rg<|asg G G<|nl<|nx<|sq<|rg<|mv G G<|geI G G G<|mv G G ?_
 apply jo [] trivial
 ·
  intro K8
  refine spA (i := 5) G (fun h5 => ?_) (fun h5 => ?_)
  ·
   have p5 := of_decide_eq_true h5
   exact gY G G G<|mv G G<|gY G G G<|ltI G G G<|pkT G G G<|jA K8 h5 trivial Sr
  ·
   exact gS (g := [_, _]) G<|pkF G G G<|jA0 K8 h5 trivial Sr
 refine asg G G<|nl<|nx<|rt ?_
 exact fR1 () G G (by rfl) G Sn

theorem skeyed_c (k : ByteArray) : FnV Tryz.prog 241 [.string k] [] (.bool (okKey k)) := by
 refine Fnc.proof Tryz.func241 G 11 G G fun X w => sq<|rg<|asg G G<|nl<|nx<|sq<|rg<|mv G G<|lnS G Tryz.underlying9 G<|geI G G G<|mv G G ?_
 apply jo [] trivial
 ·
  intro K10
  refine spA (i := 6) G (fun h6 => ?_) (fun h6 => ?_)
  ·
   have p6 := of_decide_eq_true h6
   exact gY G G G<|mv G G<|gY G G G<|lnS G Tryz.underlying9 G<|gY G G G<|leI G G G<|pkT G G G<|jA K10 h6 trivial Sr
  ·
   exact gS (g := [_, _, _]) G<|pkF G G G<|jA0 K10 h6 trivial Sr
 refine asg G G<|nl<|nx<|rt ?_
 exact fR1 () G G (by rfl) G Sn

theorem swhose_c (c : Int) (q : Int) (h_c : InI c) (h_q : InI q) : FnV Tryz.prog 240 [.int .i64 c, .int .i64 q] [] (.bool (okWhose c q)) := by
 refine Fnc.proof Tryz.func240 G 19 G G fun X w => ?_
 obtain ⟨h_c1, h_c2⟩ := id h_c
 obtain ⟨h_q1, h_q2⟩ := id h_q
 refine sq<|rg<|asg G G<|nl<|nx<|sq<|rg<|mv G G<|geI G G G<|mv G G ?_
 apply jo [(1, _)] ⟨rfl, trivial⟩
 ·
  intro K10
  refine spA (i := 7) G (fun h7 => ?_) (fun h7 => ?_)
  ·
   have p7 := of_decide_eq_true h7
   exact gY G G G<|mv G G<|gY G G G<|leI G G G<|pkT G G G<|jA K10 h7 ⟨G, trivial⟩ Sr
  ·
   exact gS (g := [_, _]) G<|pkF G G G<|jA0 K10 h7 ⟨G, trivial⟩ Sr
 refine mv G G ?_
 apply jo [(1, _)] ⟨rfl, trivial⟩
 ·
  intro K14
  refine spA (i := 11) G (fun h11 => ?_) (fun h11 => ?_)
  ·
   exact gY G G G<|mv G G<|gY G G G<|geI G G G<|pkT G G G<|jA K14 h11 ⟨G, trivial⟩ Sr
  ·
   exact gS (g := [_, _]) G<|pkF G G G<|jA0 K14 h11 ⟨G, trivial⟩ Sr
 refine mv G G ?_
 apply jo [] trivial
 ·
  intro K18
  refine spA (i := 15) G (fun h15 => ?_) (fun h15 => ?_)
  ·
   exact gY G G G<|mv G G<|gY G G G<|leI G G G<|pkT G G G<|jA K18 h15 trivial Sr
  ·
   exact gS (g := [_, _]) G<|pkF G G G<|jA0 K18 h15 trivial Sr
 refine asg G G<|nl<|nx<|rt ?_
 exact fR1 () G G (by rfl) G Sn

theorem dwhose_c (c : Int) (q : Int) (h_c : InI c) (h_q : InI q) : FnV Tryz.prog 239 [.int .i64 c, .int .i64 q] [] (.bool (okWhose c q)) := by
 refine Fnc.proof Tryz.func239 G 19 G G fun X w => ?_
 obtain ⟨h_c1, h_c2⟩ := id h_c
 obtain ⟨h_q1, h_q2⟩ := id h_q
 refine sq<|rg<|asg G G<|nl<|nx<|sq<|rg<|mv G G<|geI G G G<|mv G G ?_
 apply jo [(1, _)] ⟨rfl, trivial⟩
 ·
  intro K10
  refine spA (i := 7) G (fun h7 => ?_) (fun h7 => ?_)
  ·
   have p7 := of_decide_eq_true h7
   exact gY G G G<|mv G G<|gY G G G<|leI G G G<|pkT G G G<|jA K10 h7 ⟨G, trivial⟩ Sr
  ·
   exact gS (g := [_, _]) G<|pkF G G G<|jA0 K10 h7 ⟨G, trivial⟩ Sr
 refine mv G G ?_
 apply jo [(1, _)] ⟨rfl, trivial⟩
 ·
  intro K14
  refine spA (i := 11) G (fun h11 => ?_) (fun h11 => ?_)
  ·
   exact gY G G G<|mv G G<|gY G G G<|geI G G G<|pkT G G G<|jA K14 h11 ⟨G, trivial⟩ Sr
  ·
   exact gS (g := [_, _]) G<|pkF G G G<|jA0 K14 h11 ⟨G, trivial⟩ Sr
 refine mv G G ?_
 apply jo [] trivial
 ·
  intro K18
  refine spA (i := 15) G (fun h15 => ?_) (fun h15 => ?_)
  ·
   exact gY G G G<|mv G G<|gY G G G<|leI G G G<|pkT G G G<|jA K18 h15 trivial Sr
  ·
   exact gS (g := [_, _]) G<|pkF G G G<|jA0 K18 h15 trivial Sr
 refine asg G G<|nl<|nx<|rt ?_
 exact fR1 () G G (by rfl) G Sn

theorem pwhose_c (c : Int) (q : Int) (h_c : InI c) (h_q : InI q) : FnV Tryz.prog 190 [.int .i64 c, .int .i64 q] [] (.bool (okWhose c q)) := by
 refine Fnc.proof Tryz.func190 G 19 G G fun X w => ?_
 obtain ⟨h_c1, h_c2⟩ := id h_c
 obtain ⟨h_q1, h_q2⟩ := id h_q
 refine sq<|rg<|asg G G<|nl<|nx<|sq<|rg<|mv G G<|geI G G G<|mv G G ?_
 apply jo [(1, _)] ⟨rfl, trivial⟩
 ·
  intro K10
  refine spA (i := 7) G (fun h7 => ?_) (fun h7 => ?_)
  ·
   have p7 := of_decide_eq_true h7
   exact gY G G G<|mv G G<|gY G G G<|leI G G G<|pkT G G G<|jA K10 h7 ⟨G, trivial⟩ Sr
  ·
   exact gS (g := [_, _]) G<|pkF G G G<|jA0 K10 h7 ⟨G, trivial⟩ Sr
 refine mv G G ?_
 apply jo [(1, _)] ⟨rfl, trivial⟩
 ·
  intro K14
  refine spA (i := 11) G (fun h11 => ?_) (fun h11 => ?_)
  ·
   exact gY G G G<|mv G G<|gY G G G<|geI G G G<|pkT G G G<|jA K14 h11 ⟨G, trivial⟩ Sr
  ·
   exact gS (g := [_, _]) G<|pkF G G G<|jA0 K14 h11 ⟨G, trivial⟩ Sr
 refine mv G G ?_
 apply jo [] trivial
 ·
  intro K18
  refine spA (i := 15) G (fun h15 => ?_) (fun h15 => ?_)
  ·
   exact gY G G G<|mv G G<|gY G G G<|leI G G G<|pkT G G G<|jA K18 h15 trivial Sr
  ·
   exact gS (g := [_, _]) G<|pkF G G G<|jA0 K18 h15 trivial Sr
 refine asg G G<|nl<|nx<|rt ?_
 exact fR1 () G G (by rfl) G Sn

theorem within_c (lo : ByteArray) (hi : ByteArray) (key : ByteArray) : FnV Tryz.prog 80 [.string lo, .string hi, .string key] [] (.bool (within lo hi key)) := by
 refine Fnc.proof Tryz.func80 G 19 G G fun X w => sq<|rg<|asg G G<|nl<|nx<|sq<|rg<|mv G G<|mv G G<|leS G G G<|mv G G ?_
 apply jo [] trivial
 ·
  intro K18
  refine spA (i := 10) G (fun h10 => ?_) (fun h10 => ?_)
  ·
   refine gY G G G<|mv G G<|gY G G G<|eqS G G G<|gY G G G<|mv G G ?_
   apply jo [(10, _)] ⟨rfl, trivial⟩
   ·
    intro K17
    refine spO (i := 13) G (fun h13 => ?_) (fun h13 => ?_)
    ·
     have p13 := of_decide_eq_false h13
     exact gY G G G<|mv G G<|gY G G G<|mv G G<|gY G G G<|ltS G G G<|gY G G G<|pkF G G G<|jR K17 h13 ⟨G, trivial⟩ Sr
    ·
     exact gS (g := [_, _, _]) G<|gY G G G<|pkT G G G<|jR0 K17 h13 ⟨G, trivial⟩ Sr
   exact pkT G G G<|jA K18 h10 trivial Sr
  ·
   exact gS (g := [_, _, _, _, _, _, _]) G<|pkF G G G<|jA0 K18 h10 trivial Sr
 refine asg G G<|nl<|nx<|rt ?_
 exact fR1 () G G (by rfl) G Sn

theorem spans_c (lo : ByteArray) (hi : ByteArray) : FnV Tryz.prog 237 [.string lo, .string hi] [] (.bool (spansP lo hi)) := by
 refine Fnc.proof Tryz.func237 G 22 G G fun X w => sq<|rg<|asg G G<|nl<|nx<|sq<|rg<|mv G G<|lnS G Tryz.underlying9 G<|leI G G G<|mv G G ?_
 apply jo [(0, _), (1, _)] ⟨rfl, rfl, trivial⟩
 ·
  intro K12
  refine spA (i := 8) G (fun h8 => ?_) (fun h8 => ?_)
  ·
   have p8 := of_decide_eq_true h8
   exact gY G G G<|mv G G<|gY G G G<|lnS G Tryz.underlying9 G<|gY G G G<|leI G G G<|pkT G G G<|jA K12 h8 ⟨G, G, trivial⟩ Sr
  ·
   exact gS (g := [_, _, _]) G<|pkF G G G<|jA0 K12 h8 ⟨G, G, trivial⟩ Sr
 refine mv G G ?_
 apply jo [] trivial
 ·
  intro K21
  refine spA (i := 13) G (fun h13 => ?_) (fun h13 => ?_)
  ·
   refine gY G G G<|mv G G<|gY G G G<|eqS G G G<|gY G G G<|mv G G ?_
   apply jo [(13, _)] ⟨rfl, trivial⟩
   ·
    intro K20
    refine spO (i := 16) G (fun h16 => ?_) (fun h16 => ?_)
    ·
     have p16 := of_decide_eq_false h16
     exact gY G G G<|mv G G<|gY G G G<|mv G G<|gY G G G<|gtS G G G<|gY G G G<|pkF G G G<|jR K20 h16 ⟨G, trivial⟩ Sr
    ·
     exact gS (g := [_, _, _]) G<|gY G G G<|pkT G G G<|jR0 K20 h16 ⟨G, trivial⟩ Sr
   exact pkT G G G<|jA K21 h13 trivial Sr
  ·
   exact gS (g := [_, _, _, _, _, _, _]) G<|pkF G G G<|jA0 K21 h13 trivial Sr
 refine asg G G<|nl<|nx<|rt ?_
 exact fR1 () G G (by first | rfl | (simp only [spansP, le_ge, Bool.not_not]; rfl) | (simp only [spansP, le_ge, Bool.not_not])) G Sn

end Go.Proofs.YtmpoffijcfaalaaGreat

/- Walks, written by specs2.py. -/

namespace Go.Proofs.YtmpoffijcfaalaaGreat
open Go.Eng Go.YtmpoffijcfaalaaGreat
set_option maxHeartbeats 1000000

theorem has_c (s : TSpan) (v : Int) (h_s : s.wf) (h_v : InI v) : FnV Tryz.prog 165 [.agg (cSpan s).toArray, .int .i64 v] [] (.bool (hasP s v)) := by
 refine Fnc.proof Tryz.func165 G 15 G G fun X w => ?_
 obtain ⟨h_v1, h_v2⟩ := id h_v
 refine sq<|rg<|bx G G G fun b2 => asg G G<|nl<|nx<|sq<|rg<|fa G fld_65_0 G<|ldB 0 G G one_3 G G<|mv G G<|leI G G G<|mv G G ?_
 apply jo [] trivial
 ·
  intro K14
  refine spA (i := 9) G (fun h9 => ?_) (fun h9 => ?_)
  ·
   have p9 := of_decide_eq_true h9
   exact gY G G G<|mv G G<|gY G G G<|fa G fld_65_1 G<|gY G G G<|ldB 0 G G one_3 G G<|gY G G G<|leI G G G<|pkT G G G<|jA K14 h9 trivial Sr
  ·
   exact gS (g := [_, _, _, _]) G<|pkF G G G<|jA0 K14 h9 trivial Sr
 refine asg G G<|nl<|nx<|rt<|dpQ ?_
 exact fR1 () G G (by rfl) G Sn

theorem owns_c (s : TState) (s_0 s_1 s_2 s_3 s_4 s_5 : Value) (key : ByteArray) (h_s : s.wf) : FnV Tryz.prog 78 [.agg (cState s s_0 s_1 s_2 s_3 s_4 s_5).toArray, .string key] [⟨s_0, s.fAccounts⟩, ⟨s_1, s.fMarks⟩, ⟨s_2, s.fWaits⟩, ⟨s_3, s.fDeals⟩, ⟨s_4, s.fEnds⟩, ⟨s_5, s.fImage⟩] (.bool (ownsP s key)) := by
 refine Fnc.proof Tryz.func78 G 15 G G fun X w => sq<|rg<|bx G G G fun b2 => asg G G<|nl<|nx<|sq<|rg<|fa G fld_55_2 G<|ldB 0 G G one_4 G G<|mv G G ?_
 apply jo [] trivial
 ·
  intro K14
  refine spA (i := 7) G (fun h7 => ?_) (fun h7 => ?_)
  ·
   exact gY G G G<|fa G fld_55_3 G<|gY G G G<|ldB 0 G G one_9 G G<|gY G G G<|fa G fld_55_4 G<|gY G G G<|ldB 0 G G one_9 G G<|gY G G G<|mv G G<|gY G G G<|cfv (within_c _ _ _) ok_80 G Sn G<|pkT G G G<|jA K14 h7 trivial Sr
  ·
   exact gS (g := [_, _, _, _, _, _]) G<|pkF G G G<|jA0 K14 h7 trivial Sr
 refine asg G G<|nl<|nx<|rt<|dpQ ?_
 exact fR1 () G G (by rfl) G Sn

theorem sealed_c (s : TState) (s_0 s_1 s_2 s_3 s_4 s_5 : Value) (key : ByteArray) (h_s : s.wf) : FnV Tryz.prog 242 [.agg (cState s s_0 s_1 s_2 s_3 s_4 s_5).toArray, .string key] [⟨s_0, s.fAccounts⟩, ⟨s_1, s.fMarks⟩, ⟨s_2, s.fWaits⟩, ⟨s_3, s.fDeals⟩, ⟨s_4, s.fEnds⟩, ⟨s_5, s.fImage⟩] (.bool (sealedP s key)) := by
 refine Fnc.proof Tryz.func242 G 19 G G fun X w => sq<|rg<|bx G G G fun b2 => asg G G<|nl<|nx<|sq<|rg<|fa G fld_55_11 G<|fa G fld_24_0 G<|ldB 0 G G one_3 G G<|neI G G G<|mv G G ?_
 apply jo [] trivial
 ·
  intro K18
  refine spA (i := 9) G (fun h9 => ?_) (fun h9 => ?_)
  ·
   have p9 := h9
   simp only [Bool.not_eq_true', Bool.not_eq_false', decide_eq_true_eq, decide_eq_false_iff_not] at p9
   refine gY G G G<|fa G fld_55_11 G<|gY G G G<|fa G fld_24_3 G<|gY G G G<|ldB 0 G G one_9 G G<|gY G G G<|fa G fld_55_11 G<|gY G G G<|fa G fld_24_4 G<|gY G G G<|ldB 0 G G one_9 G G<|gY G G G<|mv G G ?_
   exact gY G G G<|cfv (within_c _ _ _) ok_80 G Sn G<|pkT G G G<|jA K18 h9 trivial Sr
  ·
   exact gS (g := [_, _, _, _, _, _, _, _]) G<|pkF G G G<|jA0 K18 h9 trivial Sr
 refine asg G G<|nl<|nx<|rt<|dpQ ?_
 exact fR1 () G G (by rfl) G Sn

theorem planned_c (p : TPlan) (h_p : p.wf) : FnV Tryz.prog 186 [.agg (cPlan p).toArray] [] (.bool (plannedP p)) := by
 refine Fnc.proof Tryz.func186 G 35 G G fun X w => sq<|rg<|bx G G G fun b1 => asg G G<|nl<|nx<|sq<|rg<|fa G fld_24_0 G<|ldB 0 G G one_3 G G<|geI G G G<|mv G G ?_
 apply jo [(1, _)] ⟨rfl, trivial⟩
 ·
  intro K10
  refine spA (i := 6) G (fun h6 => ?_) (fun h6 => ?_)
  ·
   have p6 := of_decide_eq_true h6
   exact gY G G G<|fa G fld_24_0 G<|gY G G G<|ldB 0 G G one_3 G G<|gY G G G<|leI G G G<|pkT G G G<|jA K10 h6 ⟨G, trivial⟩ Sr
  ·
   exact gS (g := [_, _, _]) G<|pkF G G G<|jA0 K10 h6 ⟨G, trivial⟩ Sr
 refine mv G G ?_
 apply jo [(1, _)] ⟨rfl, trivial⟩
 ·
  intro K15
  refine spA (i := 11) G (fun h11 => ?_) (fun h11 => ?_)
  ·
   exact gY G G G<|fa G fld_24_1 G<|gY G G G<|ldB 0 G G one_3 G G<|gY G G G<|cfv (sgroup_c _ h_p.2.1) ok_169 G Sn G<|pkT G G G<|jA K15 h11 ⟨G, trivial⟩ Sr
  ·
   exact gS (g := [_, _, _]) G<|pkF G G G<|jA0 K15 h11 ⟨G, trivial⟩ Sr
 refine mv G G ?_
 apply jo [(1, _)] ⟨rfl, trivial⟩
 ·
  intro K20
  refine spA (i := 16) G (fun h16 => ?_) (fun h16 => ?_)
  ·
   exact gY G G G<|fa G fld_24_2 G<|gY G G G<|ldB 0 G G one_3 G G<|gY G G G<|cfv (sgroup_c _ h_p.2.2.1) ok_169 G Sn G<|pkT G G G<|jA K20 h16 ⟨G, trivial⟩ Sr
  ·
   exact gS (g := [_, _, _]) G<|pkF G G G<|jA0 K20 h16 ⟨G, trivial⟩ Sr
 refine mv G G ?_
 apply jo [(1, _)] ⟨rfl, trivial⟩
 ·
  intro K27
  refine spA (i := 21) G (fun h21 => ?_) (fun h21 => ?_)
  ·
   exact gY G G G<|fa G fld_24_1 G<|gY G G G<|ldB 0 G G one_3 G G<|gY G G G<|fa G fld_24_2 G<|gY G G G<|ldB 0 G G one_3 G G<|gY G G G<|neI G G G<|pkT G G G<|jA K27 h21 ⟨G, trivial⟩ Sr
  ·
   exact gS (g := [_, _, _, _, _]) G<|pkF G G G<|jA0 K27 h21 ⟨G, trivial⟩ Sr
 refine mv G G ?_
 apply jo [] trivial
 ·
  intro K34
  refine spA (i := 28) G (fun h28 => ?_) (fun h28 => ?_)
  ·
   exact gY G G G<|fa G fld_24_3 G<|gY G G G<|ldB 0 G G one_9 G G<|gY G G G<|fa G fld_24_4 G<|gY G G G<|ldB 0 G G one_9 G G<|gY G G G<|cfv (spans_c _ _) ok_237 G Sn G<|pkT G G G<|jA K34 h28 trivial Sr
  ·
   exact gS (g := [_, _, _, _, _]) G<|pkF G G G<|jA0 K34 h28 trivial Sr
 refine asg G G<|nl<|nx<|rt<|dpQ ?_
 exact fR1 () G G (by rfl) G Sn

theorem keeper_c (l : TLock) (h_l : l.wf) : FnV Tryz.prog 225 [.agg (cLock l).toArray] [] (.bool (keeperP l)) := by
 refine Fnc.proof Tryz.func225 G 21 G G fun X w => sq<|rg<|bx G G G fun b1 => asg G G<|nl<|nx<|sq<|rg<|fa G fld_68_0 G<|ldB 0 G G one_3 G G<|geI G G G<|mv G G ?_
 apply jo [(1, _)] ⟨rfl, trivial⟩
 ·
  intro K10
  refine spA (i := 6) G (fun h6 => ?_) (fun h6 => ?_)
  ·
   have p6 := of_decide_eq_true h6
   exact gY G G G<|fa G fld_68_1 G<|gY G G G<|ldB 0 G G one_3 G G<|gY G G G<|geI G G G<|pkT G G G<|jA K10 h6 ⟨G, trivial⟩ Sr
  ·
   exact gS (g := [_, _, _]) G<|pkF G G G<|jA0 K10 h6 ⟨G, trivial⟩ Sr
 refine mv G G ?_
 apply jo [(1, _)] ⟨rfl, trivial⟩
 ·
  intro K15
  refine spA (i := 11) G (fun h11 => ?_) (fun h11 => ?_)
  ·
   exact gY G G G<|fa G fld_68_2 G<|gY G G G<|ldB 0 G G one_3 G G<|gY G G G<|geI G G G<|pkT G G G<|jA K15 h11 ⟨G, trivial⟩ Sr
  ·
   exact gS (g := [_, _, _]) G<|pkF G G G<|jA0 K15 h11 ⟨G, trivial⟩ Sr
 refine mv G G ?_
 apply jo [] trivial
 ·
  intro K20
  refine spA (i := 16) G (fun h16 => ?_) (fun h16 => ?_)
  ·
   exact gY G G G<|fa G fld_68_2 G<|gY G G G<|ldB 0 G G one_3 G G<|gY G G G<|ltI G G G<|pkT G G G<|jA K20 h16 trivial Sr
  ·
   exact gS (g := [_, _, _]) G<|pkF G G G<|jA0 K20 h16 trivial Sr
 refine asg G G<|nl<|nx<|rt<|dpQ ?_
 exact fR1 () G G (by rfl) G Sn

theorem locked_c (a : TAccount) (a_0 : Value) (h_a : a.wf) : FnV Tryz.prog 167 [.agg (cAccount a a_0).toArray] [⟨a_0, a.fHolders⟩] (.bool (lockedP a)) := by
 refine Fnc.proof Tryz.func167 G 7 G G fun X w => sq<|rg<|bx G G G fun b1 => asg G G<|nl<|nx<|sq<|rg<|fa G fld_70_5 G<|fa G fld_68_0 G<|ldB 0 G G one_3 G G<|neI G G G<|asg G G ?_
 refine nl<|nx<|rt<|dpQ ?_
 exact fR1 () G G (by rfl) G Sn

theorem fate_c (m : Int) (t : Int) (h_m : InI m) (h_t : InI t) : FnV Tryz.prog 284 [.int .i64 m, .int .i64 t] [] (.int .i64 (fateP m t)) := by
 refine Fnc.proof Tryz.func284 G 19 G G fun X w => ?_
 obtain ⟨h_m1, h_m2⟩ := id h_m
 obtain ⟨h_t1, h_t2⟩ := id h_t
 refine sq<|rg<|asg G G<|nl<|nx<|sq<|bk<|sq<|rg<|mv G G<|eqI G G G<|mv G G ?_
 apply jo [(0, _), (1, _)] ⟨rfl, rfl, trivial⟩
 ·
  intro K11
  refine spO (i := 8) G (fun h8 => ?_) (fun h8 => ?_)
  ·
   have p8 := of_decide_eq_false h8
   exact gY G G G<|mv G G<|gY G G G<|eqI G G G<|pkF G G G<|jR K11 h8 ⟨G, G, trivial⟩ Sr
  ·
   exact gS (g := [_, _]) G<|pkT G G G<|jR0 K11 h8 ⟨G, G, trivial⟩ Sr
 refine asg G G<|nl<|nx<|cdB G (fun h5 => ?_) (fun h5 => ?_)
 ·
  refine sq<|rg<|asg G G<|nl<|nx<|rt<|bR<|tR ?_
  exact fR1 () G G (by simp_all [fateP]) G Sn
 ·
  refine sq<|rg<|mv G G<|eqI G G G<|mv G G ?_
  apply jo [] trivial
  ·
   intro K18
   refine spA (i := 15) G (fun h15 => ?_) (fun h15 => ?_)
   ·
    have p15 := of_decide_eq_true h15
    exact gY G G G<|mv G G<|gY G G G<|eqI G G G<|pkT G G G<|jA K18 h15 trivial Sr
   ·
    exact gS (g := [_, _]) G<|pkF G G G<|jA0 K18 h15 trivial Sr
  refine asg G G<|nl<|nx<|cdB G (fun h12 => ?_) (fun h12 => ?_)
  ·
   refine sq<|rg<|asg G G<|nl<|nx<|rt<|bR<|tR ?_
   exact fR1 () G G (by simp_all [fateP]) G Sn
  ·
   refine sk<|bN<|nx<|sq<|rg<|asg G G<|nl<|nx<|rt ?_
   exact fR1 () G G (by simp_all [fateP]) G Sn

theorem lmay_c (r : TRight) (h_r : r.wf) : FnV Tryz.prog 124 [.agg (cRight r).toArray] [] (.bool (lmayP r)) := by
 refine Fnc.proof Tryz.func124 G 23 G G fun X w => sq<|rg<|bx G G G fun b1 => asg G G<|nl<|nx<|sq<|rg<|fa G fld_59_0 G<|ldB 0 G G one_3 G G<|cfv (lgroup_c _ h_r.1) ok_98 G Sn G<|mv G G ?_
 apply jo [(1, _)] ⟨rfl, trivial⟩
 ·
  intro K11
  refine spA (i := 6) G (fun h6 => ?_) (fun h6 => ?_)
  ·
   exact gY G G G<|fa G fld_59_1 G<|gY G G G<|ldB 0 G G one_9 G G<|gY G G G<|lnS G Tryz.underlying9 G<|gY G G G<|geI G G G<|pkT G G G<|jA K11 h6 ⟨G, trivial⟩ Sr
  ·
   exact gS (g := [_, _, _, _]) G<|pkF G G G<|jA0 K11 h6 ⟨G, trivial⟩ Sr
 refine mv G G ?_
 apply jo [(1, _)] ⟨rfl, trivial⟩
 ·
  intro K17
  refine spA (i := 12) G (fun h12 => ?_) (fun h12 => ?_)
  ·
   exact gY G G G<|fa G fld_59_1 G<|gY G G G<|ldB 0 G G one_9 G G<|gY G G G<|lnS G Tryz.underlying9 G<|gY G G G<|leI G G G<|pkT G G G<|jA K17 h12 ⟨G, trivial⟩ Sr
  ·
   exact gS (g := [_, _, _, _]) G<|pkF G G G<|jA0 K17 h12 ⟨G, trivial⟩ Sr
 refine mv G G ?_
 apply jo [] trivial
 ·
  intro K22
  refine spA (i := 18) G (fun h18 => ?_) (fun h18 => ?_)
  ·
   exact gY G G G<|fa G fld_59_2 G<|gY G G G<|ldB 0 G G one_3 G G<|gY G G G<|geI G G G<|pkT G G G<|jA K22 h18 trivial Sr
  ·
   exact gS (g := [_, _, _]) G<|pkF G G G<|jA0 K22 h18 trivial Sr
 refine asg G G<|nl<|nx<|rt<|dpQ ?_
 exact fR1 () G G (by rfl) G Sn

theorem end_c (v_l : Value) (l : List TPlace) (i : Int) (h_i : InI i) : FnV Tryz.prog 245 [v_l, .int .i64 i] [⟨v_l, l⟩] (.string (endP l i)) := by
 refine Fnc.proof Tryz.func245 G 20 G G fun X w => ?_
 obtain ⟨h_i1, h_i2⟩ := id h_i
 refine gtC (q := l.length ≤ 9223372036854775807) (fun S w h => list_len (h _ (List.mem_of_getElem? (i := 0) G))) fun hlen => sq<|rg<|asg G G<|nl<|nx<|sq<|sq<|rg<|mv G G<|ltI G G G<|mv G G ?_
 apply jo [(0, _), (1, _)] ⟨rfl, rfl, trivial⟩
 ·
  intro K13
  refine spO (i := 7) G (fun h7 => ?_) (fun h7 => ?_)
  ·
   have p7 := of_decide_eq_false h7
   exact gY G G G<|mv G G<|gY G G G<|mv G G<|gY G G G<|lnP 0 G G Tryz.underlying22 G fun l10 => gY G G G<|sbI G G (inI (by omega) (by omega)) G<|gY G G G<|geI G G G<|pkF G G G<|jR K13 h7 ⟨G, G, trivial⟩ Sr
  ·
   exact gS (g := [_, _, _, _, _]) G<|pkT G G G<|jR0 K13 h7 ⟨G, G, trivial⟩ Sr
 refine nl<|nx<|cdB G (fun h13 => ?_) (fun h13 => ?_)
 ·
  refine sq<|rg<|asg G G<|nl<|nx<|rt<|tR ?_
  exact fR1 () G G (by rw [endP, if_pos h13]; try rfl) G Sn
 ·
  have q13 := h13
  simp at q13
  refine sk<|nx<|sq<|rg<|mv G G<|mv G G<|adI G G (inI (by omega) (by omega)) G<|ixP 0 G G G slt_22 (by omega) (getDE (d := default) (by omega)) G fun v17 => faP (α := TPlace) (β := ByteArray) 0 (fun x : TPlace => x.fFrom) G G fld_90_1 pPlace_1 G fun v18 => ldV 0 G G one_9 G fun w19 => ?_
  refine asg G G<|nl<|nx<|rt ?_
  exact fR1 () G G (by rw [endP, if_neg (by rw [h13]; decide)]; try rfl) G Sn

end Go.Proofs.YtmpoffijcfaalaaGreat

/- Structs compared, written by specs2.py. -/

namespace Go.Proofs.YtmpoffijcfaalaaGreat
open Go.Eng Go.YtmpoffijcfaalaaGreat

theorem eq_Span : EqTy Tryz.prog 65 cSpan := by
 refine ⟨by kernel_rfl, fun a b w => ?_⟩
 rw [run_equalIn_struct w 9999 65 _ _ (by simp only [Program.fieldsOf, Tryz.underlying65]) (by kernel_rfl)]
 simp only [Program.fieldsOf, Tryz.underlying65]
 refine Eq.trans (eqG G Tryz.underlying3 G G G (eqFi Tryz.underlying3 _ _) (fun w => eqG G Tryz.underlying3 G G G (eqFi Tryz.underlying3 _ _) (fun w => eqF0 w))) ?_
 congr 1
 obtain ⟨a0, a1⟩ := a
 obtain ⟨b0, b1⟩ := b
 simp [TSpan.mk.injEq, Bool.and_assoc]

theorem eq_Answer : EqTy Tryz.prog 120 cAnswer := by
 refine ⟨by kernel_rfl, fun a b w => ?_⟩
 rw [run_equalIn_struct w 9999 120 _ _ (by simp only [Program.fieldsOf, Tryz.underlying120]) (by kernel_rfl)]
 simp only [Program.fieldsOf, Tryz.underlying120]
 refine Eq.trans (eqG G Tryz.underlying38 G G G (eqFi Tryz.underlying38 _ _) (fun w => eqG G Tryz.underlying3 G G G (eqFi Tryz.underlying3 _ _) (fun w => eqG G Tryz.underlying3 G G G (eqFi Tryz.underlying3 _ _) (fun w => eqG G Tryz.underlying3 G G G (eqFi Tryz.underlying3 _ _) (fun w => eqF0 w))))) ?_
 congr 1
 obtain ⟨a0, a1, a2, a3⟩ := a
 obtain ⟨b0, b1, b2, b3⟩ := b
 simp [TAnswer.mk.injEq, Bool.and_assoc]

theorem eq_Plan : EqTy Tryz.prog 24 cPlan := by
 refine ⟨by kernel_rfl, fun a b w => ?_⟩
 rw [run_equalIn_struct w 9999 24 _ _ (by simp only [Program.fieldsOf, Tryz.underlying24]) (by kernel_rfl)]
 simp only [Program.fieldsOf, Tryz.underlying24]
 refine Eq.trans (eqG G Tryz.underlying3 G G G (eqFi Tryz.underlying3 _ _) (fun w => eqG G Tryz.underlying3 G G G (eqFi Tryz.underlying3 _ _) (fun w => eqG G Tryz.underlying3 G G G (eqFi Tryz.underlying3 _ _) (fun w => eqG G Tryz.underlying9 G G G (eqFs Tryz.underlying9 _ _) (fun w => eqG G Tryz.underlying9 G G G (eqFs Tryz.underlying9 _ _) (fun w => eqG G Tryz.underlying3 G G G (eqFi Tryz.underlying3 _ _) (fun w => eqG G Tryz.underlying3 G G G (eqFi Tryz.underlying3 _ _) (fun w => eqF0 w)))))))) ?_
 congr 1
 obtain ⟨a0, a1, a2, a3, a4, a5, a6⟩ := a
 obtain ⟨b0, b1, b2, b3, b4, b5, b6⟩ := b
 simp [TPlan.mk.injEq, Bool.and_assoc]

theorem eq_Op : EqTy Tryz.prog 34 cOp := by
 refine ⟨by kernel_rfl, fun a b w => ?_⟩
 rw [run_equalIn_struct w 9999 34 _ _ (by simp only [Program.fieldsOf, Tryz.underlying34]) (by kernel_rfl)]
 simp only [Program.fieldsOf, Tryz.underlying34]
 refine Eq.trans (eqG G Tryz.underlying3 G G G (eqFi Tryz.underlying3 _ _) (fun w => eqG G Tryz.underlying9 G G G (eqFs Tryz.underlying9 _ _) (fun w => eqG G Tryz.underlying9 G G G (eqFs Tryz.underlying9 _ _) (fun w => eqG G Tryz.underlying3 G G G (eqFi Tryz.underlying3 _ _) (fun w => eqG G Tryz.underlying3 G G G (eqFi Tryz.underlying3 _ _) (fun w => eqG G Tryz.underlying3 G G G (eqFi Tryz.underlying3 _ _) (fun w => eqF0 w))))))) ?_
 congr 1
 obtain ⟨a0, a1, a2, a3, a4, a5⟩ := a
 obtain ⟨b0, b1, b2, b3, b4, b5⟩ := b
 simp [TOp.mk.injEq, Bool.and_assoc]

theorem eq_Lock : EqTy Tryz.prog 68 cLock := by
 refine ⟨by kernel_rfl, fun a b w => ?_⟩
 rw [run_equalIn_struct w 9999 68 _ _ (by simp only [Program.fieldsOf, Tryz.underlying68]) (by kernel_rfl)]
 simp only [Program.fieldsOf, Tryz.underlying68]
 refine Eq.trans (eqG G Tryz.underlying3 G G G (eqFi Tryz.underlying3 _ _) (fun w => eqG G Tryz.underlying3 G G G (eqFi Tryz.underlying3 _ _) (fun w => eqG G Tryz.underlying3 G G G (eqFi Tryz.underlying3 _ _) (fun w => eqG G Tryz.underlying3 G G G (eqFi Tryz.underlying3 _ _) (fun w => eqF0 w))))) ?_
 congr 1
 obtain ⟨a0, a1, a2, a3⟩ := a
 obtain ⟨b0, b1, b2, b3⟩ := b
 simp [TLock.mk.injEq, Bool.and_assoc]
end Go.Proofs.YtmpoffijcfaalaaGreat
